/- Walks of functions of this seat, printed by a program over the engine. Conditions: as each theorem says. -/
import Derived.Test.YthfpejhonhaggaaGreatDoorZW6
namespace Go.Proofs.YthfpejhonhaggaaGreatDoor
open Go.Eng Go.RowKit
set_option linter.unusedSimpArgs false
set_option linter.unusedVariables false
abbrev kvW7_1 : List Value := [.string ByteArray.empty, .string ByteArray.empty, iv 0]
theorem hb44 : HasBody Tryz.prog 44 := fun _ _ => by kernel_rfl
noncomputable def K44_0 : List Item := adv 2 [] (bodyOf Tryz.f44)
noncomputable def K44_1 : List Item := adv 6 [] (popK K44_0)
noncomputable def K44_2 : List Item := adv 2 [] (popK (popK K44_1))
noncomputable def K44_3 : List Item := adv 3 [false] K44_2
noncomputable def K44_4 : List Item := adv 3 [] (rRest K44_3)
noncomputable def K44_5 : List Item := adv 16 [true] (popK (popK K44_4))
noncomputable def K44_6 : List Item := adv 4 [] (popK (popK K44_5))
noncomputable def K44_7 : List Item := adv 1 [] (popK K44_6)
noncomputable def K44_8 : List Item := adv 3 [] (popK K44_7)
noncomputable def K44_9 : List Item := List.drop 1 K44_8
noncomputable def K44_10 : List Item := adv 5 [true] K44_9
noncomputable def K44_11 : List Item := adv 8 [false] K44_9
noncomputable def K44_12 : List Item := adv 11 [true] K44_11
noncomputable def K44_13 : List Item := adv 4 [] (popK (popK K44_12))
noncomputable def K44_14 : List Item := adv 1 [] (popK K44_13)
noncomputable def K44_15 : List Item := adv 3 [] (popK K44_14)
noncomputable def K44_16 : List Item := List.drop 1 K44_15
noncomputable def K44_17 : List Item := adv 5 [true] K44_16
noncomputable def K44_18 : List Item := adv 8 [false] K44_16
noncomputable def K44_19 : List Item := adv 11 [true] K44_18
noncomputable def K44_20 : List Item := adv 4 [] (popK (popK K44_19))
noncomputable def K44_21 : List Item := adv 1 [] (popK K44_20)
noncomputable def K44_22 : List Item := adv 3 [] (popK K44_21)
noncomputable def K44_23 : List Item := List.drop 1 K44_22
noncomputable def K44_24 : List Item := adv 5 [true] K44_23
noncomputable def K44_25 : List Item := adv 8 [false] K44_23
noncomputable def K44_26 : List Item := adv 11 [false] K44_25
noncomputable def K44_27 : List Item := adv 2 [] (popK (popK K44_26))
noncomputable def K44_28 : List Item := adv 4 [false] K44_27
noncomputable def K44_29 : List Item := adv 2 [] (popK (popK K44_28))
noncomputable def K44_30 : List Item := adv 4 [true] K44_27
noncomputable def K44_31 : List Item := adv 3 [] (popK K44_30)
noncomputable def K44_32 : List Item := adv 4 [] K44_22
noncomputable def K44_33 : List Item := adv 4 [] K44_32
noncomputable def K44_34 : List Item := adv 3 [] K44_33
noncomputable def K44_35 : List Item := adv 1 [] K44_34
noncomputable def K44_36 : List Item := adv 1 [] (popK K44_35)
noncomputable def K44_37 : List Item := adv 4 [] K44_15
noncomputable def K44_38 : List Item := adv 4 [] K44_37
noncomputable def K44_39 : List Item := adv 3 [] K44_38
noncomputable def K44_40 : List Item := adv 1 [] K44_39
noncomputable def K44_41 : List Item := adv 1 [] (popK K44_40)
noncomputable def K44_42 : List Item := adv 4 [] K44_8
noncomputable def K44_43 : List Item := adv 4 [] K44_42
noncomputable def K44_44 : List Item := adv 3 [] K44_43
noncomputable def K44_45 : List Item := adv 1 [] K44_44
noncomputable def K44_46 : List Item := adv 1 [] (popK K44_45)
noncomputable def K44_47 : List Item := adv 5 [true] K44_2
set_option maxRecDepth 20000 in
set_option maxHeartbeats 20000000 in
theorem formed_any (i : Ins) (w : World) (hi : insQ w i) : Ret Tryz.prog 44 #[.agg (insA i)] w (fun v w' => v = .bool (formB i) ∧ Sep w [] w') := by
 have S0 := Sep.refl w
 refine Ret.named fun R hR => ?_
 refine Ret.of_J (N := 53) [(0, .agg (insA i))] Tryz.func44 rfl rfl (Nat.le_of_ble_eq_true (by kernel_rfl)) (by kernel_rfl) ?_
 obtain ⟨q1, q2, q3, q4, q5, _⟩ := id hi
 have hrl_ := rows_len
 refine J.run 2 K44_0 [(0, .agg (insA i))] w (by kernel_rfl) ?_
 refine J.new S0 1 (insC i) 44 (by kernel_rfl) ?_
 intro b1 w1 S1
 refine J.run 6 K44_1 [(7, pv b1), (1, pv b1)] w1 (by kernel_rfl) ?_
 refine J.ok (OK.ldBox S1 0 8 3 0 (iv i.gOp) (by kernel_rfl) rfl (by kernel_rfl)) ?_
 refine J.callF 9 76 #[iv i.gOp] hb76 (by kernel_rfl) (known_any i.gOp _) ?_
 rintro _ w2 ⟨rfl, T1⟩
 have S2 : Sep w [box b1 (insC i) 44] w2 := S1.trans T1
 clear T1 S1
 refine J.run 2 K44_2 [(10, .bool (!(decide (1 ≤ i.gOp ∧ i.gOp ≤ 22)))), (1, pv b1)] w2 (by kernel_rfl) ?_
 rcases Bool.eq_false_or_eq_true (decide (1 ≤ i.gOp ∧ i.gOp ≤ 22)) with fk1 | fk1
 ·skip
  refine J.head (.bool false) (congrArg Value.bool (by rw [fk1]; rfl)) ?_
  have fb1 := of_decide_eq_true fk1
  have hrs := rows_size (op := i.gOp) (by omega)
  refine J.run 3 K44_3 [(1, pv b1)] w2 (by kernel_rfl) ?_
  have W1 : ∀ (bd5 : Nat) (bd0 : Nat) (w3 : World), Sep w [box bd0 (rowsL.flatMap rwoE) 74, box bd5 (rwoC (rowsL.getD ((i.gOp).toNat) rwo0)) 74, box b1 (insC i) 44] w3 → WA Tryz.prog 44 53 R K44_3 (fun w_ => Sep w [box b1 (insC i) 44] w_) 0 #[true, true, true, true, true, true, true] [(1, pv b1), (3, pv bd5)] w3 := by
   intro bd5 bd0 w3 S3
   refine WA.done (by kernel_rfl) ?_
   refine J.run 0 (rRest K44_3) [(1, pv b1), (3, pv bd5)] w3 (by kernel_rfl) ?_
   refine J.run 3 K44_4 [(1, pv b1), (3, pv bd5)] w3 (by kernel_rfl) ?_
   refine J.newSlice S3 16 3 [.int .u8 65, .int .u8 66, .int .u8 67] 5 (by kernel_rfl) ?_
   intro b2 w4 S4
   refine J.constBytes (b := b2) (e := 5) S4 0 (⟨#[65, 66, 67]⟩ : ByteArray) 17 40 3 3 (by kernel_rfl) (by kernel_rfl) (by kernel_rfl) ?_
   intro w5 S5
   replace S5 : Sep w [rows8 b2 (⟨#[65, 66, 67]⟩ : ByteArray), box bd0 (rowsL.flatMap rwoE) 74, box bd5 (rwoC (rowsL.getD ((i.gOp).toNat) rwo0)) 74, box b1 (insC i) 44] w5 := S5
   refine J.run 16 K44_5 [(19, iv 0), (18, iv 3), (17, .slice (some ⟨b2, 0, none⟩) 3 3), (1, pv b1), (3, pv bd5)] w5 (by kernel_rfl) ?_
   obtain ⟨p1, hp1, hc1⟩ := rows8_at (S5.nth 0 rfl) 0 (by first | decide | omega | (simp; omega))
   have := byteAt_bounds (⟨#[65, 66, 67]⟩ : ByteArray) 0
   have hc2 : w5.cell? (p1.add 0) = some (.int .u8 65) := hc1
   refine J.ok (OK.index 21 40 1 (some ⟨b2, 0, none⟩) p1 3 0 0 (p1.add 0) (by kernel_rfl) (by kernel_rfl) hp1 (by omega) (by first | omega | (simp; omega)) (by rw [Nat.mul_one])) ?_
   refine J.ok (OK.ldCell 22 5 (p1.add 0) (.int .u8 65) (by kernel_rfl) (by kernel_rfl) hc2) ?_
   refine J.run 4 K44_6 [(5, .int .u8 65), (19, iv 0), (18, iv 3), (17, .slice (some ⟨b2, 0, none⟩) 3 3), (1, pv b1), (3, pv bd5)] w5 (by kernel_rfl) ?_
   refine J.ok (OK.ldBox S5 3 23 44 0 (.agg (insA i)) (by kernel_rfl) rfl (by kernel_rfl)) ?_
   refine J.run 1 K44_7 [(24, .int .u8 65), (23, .agg (insA i)), (5, .int .u8 65), (19, iv 0), (18, iv 3), (17, .slice (some ⟨b2, 0, none⟩) 3 3), (1, pv b1), (3, pv bd5)] w5 (by kernel_rfl) ?_
   refine J.callF 25 51 #[.agg (insA i), .int .u8 65] hb51 (by kernel_rfl) (field_any i 65 _) ?_
   rintro _ w6 ⟨rfl, T2⟩
   have S6 : Sep w [rows8 b2 (⟨#[65, 66, 67]⟩ : ByteArray), box bd0 (rowsL.flatMap rwoE) 74, box bd5 (rwoC (rowsL.getD ((i.gOp).toNat) rwo0)) 74, box b1 (insC i) 44] w6 := S5.trans T2
   clear T2 S5
   refine J.head (iv i.gA) (congrArg (Value.int .i64) rfl) ?_
   refine J.run 3 K44_8 [(6, iv i.gA), (5, .int .u8 65), (19, iv 0), (18, iv 3), (17, .slice (some ⟨b2, 0, none⟩) 3 3), (1, pv b1), (3, pv bd5)] w6 (by kernel_rfl) ?_
   have X1 : ∀ (tb0 : Bool) (w7 : World), ((tb0 = true → ¬ ((0 ≤ i.gA ∧ i.gA ≤ 15) ∧ (1 ≤ i.gOp ∨ i.gA = 0))) ∧ (tb0 = false → (0 ≤ i.gA ∧ i.gA ≤ 15) ∧ (1 ≤ i.gOp ∨ i.gA = 0))) → Sep w [rows8 b2 (⟨#[65, 66, 67]⟩ : ByteArray), box bd0 (rowsL.flatMap rwoE) 74, box bd5 (rwoC (rowsL.getD ((i.gOp).toNat) rwo0)) 74, box b1 (insC i) 44] w7 → J Tryz.prog 44 53 R K44_9 [(19, iv 0), (18, iv 3), (17, .slice (some ⟨b2, 0, none⟩) 3 3), (1, pv b1), (3, pv bd5), (42, .bool tb0)] w7 := by
    intro tb0 w7 htb0 S7
    refine J.run 0 K44_9 [(42, .bool tb0), (19, iv 0), (18, iv 3), (17, .slice (some ⟨b2, 0, none⟩) 3 3), (1, pv b1), (3, pv bd5)] w7 (by kernel_rfl) ?_
    rcases Bool.eq_false_or_eq_true tb0 with fk2 | fk2
    ·skip
     refine J.head (.bool true) (congrArg Value.bool fk2) ?_
     have fb3 := htb0.1 fk2
     refine J.run 5 K44_10 [(2, .bool false)] w7 (by kernel_rfl) ?_
     refine J.ret Tryz.f44 [.bool false] Tryz.func44 ⟨by kernel_rfl, trivial⟩ ?_
     refine hR _ _ ?_
     exact ⟨congrArg Value.bool (decide_eq_false (show ¬ (formP i.gOp i.gA i.gB i.gC i.gK) by omega)).symm, S7.nil⟩
    ·skip
     refine J.head (.bool false) (congrArg Value.bool fk2) ?_
     have fb4 := htb0.2 fk2
     refine J.run 8 K44_11 [(19, iv 1), (18, iv 3), (17, .slice (some ⟨b2, 0, none⟩) 3 3), (1, pv b1), (3, pv bd5)] w7 (by kernel_rfl) ?_
     refine J.run 11 K44_12 [(19, iv 1), (18, iv 3), (17, .slice (some ⟨b2, 0, none⟩) 3 3), (1, pv b1), (3, pv bd5)] w7 (by kernel_rfl) ?_
     obtain ⟨p2, hp2, hc3⟩ := rows8_at (S7.nth 0 rfl) 1 (by first | decide | omega | (simp; omega))
     have := byteAt_bounds (⟨#[65, 66, 67]⟩ : ByteArray) 1
     have hc4 : w7.cell? (p2.add 1) = some (.int .u8 66) := hc3
     refine J.ok (OK.index 21 40 1 (some ⟨b2, 0, none⟩) p2 3 1 1 (p2.add 1) (by kernel_rfl) (by kernel_rfl) hp2 (by omega) (by first | omega | (simp; omega)) (by rw [Nat.mul_one])) ?_
     refine J.ok (OK.ldCell 22 5 (p2.add 1) (.int .u8 66) (by kernel_rfl) (by kernel_rfl) hc4) ?_
     refine J.run 4 K44_13 [(5, .int .u8 66), (19, iv 1), (18, iv 3), (17, .slice (some ⟨b2, 0, none⟩) 3 3), (1, pv b1), (3, pv bd5)] w7 (by kernel_rfl) ?_
     refine J.ok (OK.ldBox S7 3 23 44 0 (.agg (insA i)) (by kernel_rfl) rfl (by kernel_rfl)) ?_
     refine J.run 1 K44_14 [(24, .int .u8 66), (23, .agg (insA i)), (5, .int .u8 66), (19, iv 1), (18, iv 3), (17, .slice (some ⟨b2, 0, none⟩) 3 3), (1, pv b1), (3, pv bd5)] w7 (by kernel_rfl) ?_
     refine J.callF 25 51 #[.agg (insA i), .int .u8 66] hb51 (by kernel_rfl) (field_any i 66 _) ?_
     rintro _ w8 ⟨rfl, T3⟩
     have S8 : Sep w [rows8 b2 (⟨#[65, 66, 67]⟩ : ByteArray), box bd0 (rowsL.flatMap rwoE) 74, box bd5 (rwoC (rowsL.getD ((i.gOp).toNat) rwo0)) 74, box b1 (insC i) 44] w8 := S7.trans T3
     clear T3 S7
     refine J.head (iv i.gB) (congrArg (Value.int .i64) rfl) ?_
     refine J.run 3 K44_15 [(6, iv i.gB), (5, .int .u8 66), (19, iv 1), (18, iv 3), (17, .slice (some ⟨b2, 0, none⟩) 3 3), (1, pv b1), (3, pv bd5)] w8 (by kernel_rfl) ?_
     have X2 : ∀ (tb1 : Bool) (w9 : World), ((tb1 = true → ¬ ((0 ≤ i.gB ∧ i.gB ≤ 15) ∧ (4 ≤ i.gOp ∨ i.gB = 0))) ∧ (tb1 = false → (0 ≤ i.gB ∧ i.gB ≤ 15) ∧ (4 ≤ i.gOp ∨ i.gB = 0))) → Sep w [rows8 b2 (⟨#[65, 66, 67]⟩ : ByteArray), box bd0 (rowsL.flatMap rwoE) 74, box bd5 (rwoC (rowsL.getD ((i.gOp).toNat) rwo0)) 74, box b1 (insC i) 44] w9 → J Tryz.prog 44 53 R K44_16 [(19, iv 1), (18, iv 3), (17, .slice (some ⟨b2, 0, none⟩) 3 3), (1, pv b1), (3, pv bd5), (42, .bool tb1)] w9 := by
      intro tb1 w9 htb1 S9
      refine J.run 0 K44_16 [(42, .bool tb1), (19, iv 1), (18, iv 3), (17, .slice (some ⟨b2, 0, none⟩) 3 3), (1, pv b1), (3, pv bd5)] w9 (by kernel_rfl) ?_
      rcases Bool.eq_false_or_eq_true tb1 with fk3 | fk3
      ·skip
       refine J.head (.bool true) (congrArg Value.bool fk3) ?_
       have fb5 := htb1.1 fk3
       refine J.run 5 K44_17 [(2, .bool false)] w9 (by kernel_rfl) ?_
       refine J.ret Tryz.f44 [.bool false] Tryz.func44 ⟨by kernel_rfl, trivial⟩ ?_
       refine hR _ _ ?_
       exact ⟨congrArg Value.bool (decide_eq_false (show ¬ (formP i.gOp i.gA i.gB i.gC i.gK) by omega)).symm, S9.nil⟩
      ·skip
       refine J.head (.bool false) (congrArg Value.bool fk3) ?_
       have fb6 := htb1.2 fk3
       refine J.run 8 K44_18 [(19, iv 2), (18, iv 3), (17, .slice (some ⟨b2, 0, none⟩) 3 3), (1, pv b1), (3, pv bd5)] w9 (by kernel_rfl) ?_
       refine J.run 11 K44_19 [(19, iv 2), (18, iv 3), (17, .slice (some ⟨b2, 0, none⟩) 3 3), (1, pv b1), (3, pv bd5)] w9 (by kernel_rfl) ?_
       obtain ⟨p3, hp3, hc5⟩ := rows8_at (S9.nth 0 rfl) 2 (by first | decide | omega | (simp; omega))
       have := byteAt_bounds (⟨#[65, 66, 67]⟩ : ByteArray) 2
       have hc6 : w9.cell? (p3.add 2) = some (.int .u8 67) := hc5
       refine J.ok (OK.index 21 40 1 (some ⟨b2, 0, none⟩) p3 3 2 2 (p3.add 2) (by kernel_rfl) (by kernel_rfl) hp3 (by omega) (by first | omega | (simp; omega)) (by rw [Nat.mul_one])) ?_
       refine J.ok (OK.ldCell 22 5 (p3.add 2) (.int .u8 67) (by kernel_rfl) (by kernel_rfl) hc6) ?_
       refine J.run 4 K44_20 [(5, .int .u8 67), (19, iv 2), (18, iv 3), (17, .slice (some ⟨b2, 0, none⟩) 3 3), (1, pv b1), (3, pv bd5)] w9 (by kernel_rfl) ?_
       refine J.ok (OK.ldBox S9 3 23 44 0 (.agg (insA i)) (by kernel_rfl) rfl (by kernel_rfl)) ?_
       refine J.run 1 K44_21 [(24, .int .u8 67), (23, .agg (insA i)), (5, .int .u8 67), (19, iv 2), (18, iv 3), (17, .slice (some ⟨b2, 0, none⟩) 3 3), (1, pv b1), (3, pv bd5)] w9 (by kernel_rfl) ?_
       refine J.callF 25 51 #[.agg (insA i), .int .u8 67] hb51 (by kernel_rfl) (field_any i 67 _) ?_
       rintro _ w10 ⟨rfl, T4⟩
       have S10 : Sep w [rows8 b2 (⟨#[65, 66, 67]⟩ : ByteArray), box bd0 (rowsL.flatMap rwoE) 74, box bd5 (rwoC (rowsL.getD ((i.gOp).toNat) rwo0)) 74, box b1 (insC i) 44] w10 := S9.trans T4
       clear T4 S9
       refine J.head (iv i.gC) (congrArg (Value.int .i64) rfl) ?_
       refine J.run 3 K44_22 [(6, iv i.gC), (5, .int .u8 67), (19, iv 2), (18, iv 3), (17, .slice (some ⟨b2, 0, none⟩) 3 3), (1, pv b1), (3, pv bd5)] w10 (by kernel_rfl) ?_
       have X3 : ∀ (tb2 : Bool) (w11 : World), ((tb2 = true → ¬ ((0 ≤ i.gC ∧ i.gC ≤ 15) ∧ (useC i.gOp ∨ i.gC = 0))) ∧ (tb2 = false → (0 ≤ i.gC ∧ i.gC ≤ 15) ∧ (useC i.gOp ∨ i.gC = 0))) → Sep w [rows8 b2 (⟨#[65, 66, 67]⟩ : ByteArray), box bd0 (rowsL.flatMap rwoE) 74, box bd5 (rwoC (rowsL.getD ((i.gOp).toNat) rwo0)) 74, box b1 (insC i) 44] w11 → J Tryz.prog 44 53 R K44_23 [(19, iv 2), (18, iv 3), (17, .slice (some ⟨b2, 0, none⟩) 3 3), (1, pv b1), (3, pv bd5), (42, .bool tb2)] w11 := by
        intro tb2 w11 htb2 S11
        refine J.run 0 K44_23 [(42, .bool tb2), (19, iv 2), (18, iv 3), (17, .slice (some ⟨b2, 0, none⟩) 3 3), (1, pv b1), (3, pv bd5)] w11 (by kernel_rfl) ?_
        rcases Bool.eq_false_or_eq_true tb2 with fk4 | fk4
        ·skip
         refine J.head (.bool true) (congrArg Value.bool fk4) ?_
         have fb7 := htb2.1 fk4
         refine J.run 5 K44_24 [(2, .bool false)] w11 (by kernel_rfl) ?_
         refine J.ret Tryz.f44 [.bool false] Tryz.func44 ⟨by kernel_rfl, trivial⟩ ?_
         refine hR _ _ ?_
         exact ⟨congrArg Value.bool (decide_eq_false (show ¬ (formP i.gOp i.gA i.gB i.gC i.gK) by omega)).symm, S11.nil⟩
        ·skip
         refine J.head (.bool false) (congrArg Value.bool fk4) ?_
         have fb8 := htb2.2 fk4
         refine J.run 8 K44_25 [(19, iv 3), (18, iv 3), (17, .slice (some ⟨b2, 0, none⟩) 3 3), (1, pv b1), (3, pv bd5)] w11 (by kernel_rfl) ?_
         refine J.run 11 K44_26 [(44, .pointer (some ⟨bd5, 1, none⟩)), (1, pv b1)] w11 (by kernel_rfl) ?_
         refine J.ok (OK.ldBox S11 2 45 9 1 (.string ((rowsL.getD ((i.gOp).toNat) rwo0).gfields)) (by kernel_rfl) rfl (by kernel_rfl)) ?_
         refine J.callF 46 78 #[.string ((rowsL.getD ((i.gOp).toNat) rwo0).gfields), .string ⟨#[75]⟩] hb78 (by kernel_rfl) (hassuffix_any ((rowsL.getD ((i.gOp).toNat) rwo0).gfields) (⟨#[75]⟩ : ByteArray) _ (by omega)) ?_
         rintro _ w12 ⟨rfl, T5⟩
         have S12 : Sep w [rows8 b2 (⟨#[65, 66, 67]⟩ : ByteArray), box bd0 (rowsL.flatMap rwoE) 74, box bd5 (rwoC (rowsL.getD ((i.gOp).toNat) rwo0)) 74, box b1 (insC i) 44] w12 := S11.trans T5
         clear T5 S11
         refine J.run 2 K44_27 [(47, .bool (!(sufB ((rowsL.getD ((i.gOp).toNat) rwo0).gfields) (⟨#[75]⟩ : ByteArray)))), (1, pv b1)] w12 (by kernel_rfl) ?_
         rcases Bool.eq_false_or_eq_true (sufB ((rowsL.getD ((i.gOp).toNat) rwo0).gfields) (⟨#[75]⟩ : ByteArray)) with fk5 | fk5
         ·skip
          refine J.head (.bool false) (congrArg Value.bool (by rw [fk5]; rfl)) ?_
          have fb9 := (suf_K (op := i.gOp) (by omega)).1 fk5
          refine J.run 4 K44_28 [(1, pv b1)] w12 (by kernel_rfl) ?_
          refine J.ok (OK.ldBox S12 3 51 44 0 (.agg (insA i)) (by kernel_rfl) rfl (by kernel_rfl)) ?_
          refine J.callF 52 79 #[.agg (insA i)] hb79 (by kernel_rfl) (constant_any i _ (insQ_sep hi S12)) ?_
          rintro _ w13 ⟨rfl, T6⟩
          have S13 : Sep w [rows8 b2 (⟨#[65, 66, 67]⟩ : ByteArray), box bd0 (rowsL.flatMap rwoE) 74, box bd5 (rwoC (rowsL.getD ((i.gOp).toNat) rwo0)) 74, box b1 (insC i) 44] w13 := S12.trans T6
          clear T6 S12
          refine J.run 2 K44_29 [(2, .bool (kB (i).gOp (i).gK))] w13 (by kernel_rfl) ?_
          refine J.ret Tryz.f44 [.bool (kB (i).gOp (i).gK)] Tryz.func44 ⟨by kernel_rfl, trivial⟩ ?_
          refine hR _ _ ?_
          exact ⟨congrArg Value.bool (by show _ = decide (formP i.gOp i.gA i.gB i.gC i.gK); cases hz_ : kB (i).gOp (i).gK with | true => (have h_ := kB_iff.1 hz_; exact (decide_eq_true (by omega)).symm) | false => (have h_ := mt kB_iff.2 (by rw [hz_]; decide); exact (decide_eq_false (by omega)).symm)), S13.nil⟩
         ·skip
          refine J.head (.bool true) (congrArg Value.bool (by rw [fk5]; rfl)) ?_
          have fb10 := mt (suf_K (op := i.gOp) (by omega)).2 (by rw [fk5]; decide)
          refine J.run 4 K44_30 [(48, .pointer (some ⟨b1, 4, none⟩))] w12 (by kernel_rfl) ?_
          refine J.ok (OK.ldBox S12 3 49 3 4 (iv i.gK) (by kernel_rfl) rfl (by kernel_rfl)) ?_
          refine J.run 3 K44_31 [(2, .bool (i.gK == 0))] w12 (by kernel_rfl) ?_
          refine J.ret Tryz.f44 [.bool (i.gK == 0)] Tryz.func44 ⟨by kernel_rfl, trivial⟩ ?_
          refine hR _ _ ?_
          exact ⟨congrArg Value.bool (by show (i.gK == 0) = decide (formP i.gOp i.gA i.gB i.gC i.gK); by_cases hz_ : i.gK = 0; (rw [(beq_iff_eq.2 hz_)]; first | exact (decide_eq_true (by omega)).symm | exact (decide_eq_false (by omega)).symm); (rw [(beq_eq_false_iff_ne.2 hz_)]; first | exact (decide_eq_false (by omega)).symm | exact (decide_eq_true (by omega)).symm)), S12.nil⟩
       refine J.run 4 K44_32 [(28, .bool (decide (i.gC < 0))), (6, iv i.gC), (5, .int .u8 67), (19, iv 2), (18, iv 3), (17, .slice (some ⟨b2, 0, none⟩) 3 3), (1, pv b1), (3, pv bd5)] w10 (by kernel_rfl) ?_
       by_cases fk6 : i.gC < 0
       ·skip
        refine J.head (.bool true) (congrArg Value.bool (decide_eq_true fk6)) ?_
        refine J.run 15 K44_23 [(19, iv 2), (18, iv 3), (17, .slice (some ⟨b2, 0, none⟩) 3 3), (1, pv b1), (3, pv bd5), (42, .bool true)] w10 (by kernel_rfl) ?_
        exact X3 true w10 (⟨fun h_ => by first | (cases h_; done) | (have h2_ := of_decide_eq_true h_; omega) | (have h2_ := bne_iff_ne.1 h_; omega) | omega, fun h_ => by first | (cases h_; done) | (have h2_ := of_decide_eq_false h_; omega) | (have h2_ := bne_eq_false_iff_eq.1 h_; omega) | omega⟩) S10
       ·skip
        refine J.head (.bool false) (congrArg Value.bool (decide_eq_false fk6)) ?_
        refine J.run 4 K44_33 [(32, .bool (decide (i.gC ≥ 16))), (6, iv i.gC), (5, .int .u8 67), (19, iv 2), (18, iv 3), (17, .slice (some ⟨b2, 0, none⟩) 3 3), (1, pv b1), (3, pv bd5)] w10 (by kernel_rfl) ?_
        by_cases fk7 : i.gC ≥ 16
        ·skip
         refine J.head (.bool true) (congrArg Value.bool (decide_eq_true fk7)) ?_
         refine J.run 11 K44_23 [(19, iv 2), (18, iv 3), (17, .slice (some ⟨b2, 0, none⟩) 3 3), (1, pv b1), (3, pv bd5), (42, .bool true)] w10 (by kernel_rfl) ?_
         exact X3 true w10 (⟨fun h_ => by first | (cases h_; done) | (have h2_ := of_decide_eq_true h_; omega) | (have h2_ := bne_iff_ne.1 h_; omega) | omega, fun h_ => by first | (cases h_; done) | (have h2_ := of_decide_eq_false h_; omega) | (have h2_ := bne_eq_false_iff_eq.1 h_; omega) | omega⟩) S10
        ·skip
         refine J.head (.bool false) (congrArg Value.bool (decide_eq_false fk7)) ?_
         refine J.run 3 K44_34 [(35, .bool (i.gC != 0)), (32, .bool false), (5, .int .u8 67), (19, iv 2), (18, iv 3), (17, .slice (some ⟨b2, 0, none⟩) 3 3), (1, pv b1), (3, pv bd5)] w10 (by kernel_rfl) ?_
         by_cases fk8 : i.gC = 0
         ·skip
          refine J.head (.bool false) (congrArg Value.bool (bne_eq_false_iff_eq.2 fk8)) ?_
          refine J.run 8 K44_23 [(19, iv 2), (18, iv 3), (17, .slice (some ⟨b2, 0, none⟩) 3 3), (1, pv b1), (3, pv bd5), (42, .bool false)] w10 (by kernel_rfl) ?_
          exact X3 false w10 (⟨fun h_ => by first | (cases h_; done) | (have h2_ := of_decide_eq_true h_; omega) | (have h2_ := bne_iff_ne.1 h_; omega) | omega, fun h_ => by first | (cases h_; done) | (have h2_ := of_decide_eq_false h_; omega) | (have h2_ := bne_eq_false_iff_eq.1 h_; omega) | omega⟩) S10
         ·skip
          refine J.head (.bool true) (congrArg Value.bool (bne_iff_ne.2 fk8)) ?_
          refine J.run 1 K44_35 [(36, .pointer (some ⟨bd5, 1, none⟩)), (35, .bool true), (32, .bool false), (5, .int .u8 67), (19, iv 2), (18, iv 3), (17, .slice (some ⟨b2, 0, none⟩) 3 3), (1, pv b1), (3, pv bd5)] w10 (by kernel_rfl) ?_
          refine J.ok (OK.ldBox S10 2 37 9 1 (.string ((rowsL.getD ((i.gOp).toNat) rwo0).gfields)) (by kernel_rfl) rfl (by kernel_rfl)) ?_
          refine J.run 1 K44_36 [(38, .int .u8 67), (37, .string ((rowsL.getD ((i.gOp).toNat) rwo0).gfields)), (35, .bool true), (32, .bool false), (19, iv 2), (18, iv 3), (17, .slice (some ⟨b2, 0, none⟩) 3 3), (1, pv b1), (3, pv bd5)] w10 (by kernel_rfl) ?_
          refine J.callF 39 77 #[.string ((rowsL.getD ((i.gOp).toNat) rwo0).gfields), .int .u8 67] hb77 (by kernel_rfl) (indexbyte_any ((rowsL.getD ((i.gOp).toNat) rwo0).gfields) 67 _) ?_
          rintro _ w14 ⟨rfl, T7⟩
          have S14 : Sep w [rows8 b2 (⟨#[65, 66, 67]⟩ : ByteArray), box bd0 (rowsL.flatMap rwoE) 74, box bd5 (rwoC (rowsL.getD ((i.gOp).toNat) rwo0)) 74, box b1 (insC i) 44] w14 := S10.trans T7
          clear T7 S10
          have := idx_C (op := i.gOp) (by omega)
          refine J.run 4 K44_23 [(19, iv 2), (18, iv 3), (17, .slice (some ⟨b2, 0, none⟩) 3 3), (1, pv b1), (3, pv bd5), (42, .bool (decide ((idxB ((rowsL.getD ((i.gOp).toNat) rwo0).gfields) 67) < 0)))] w14 (by kernel_rfl) ?_
          exact X3 (decide ((idxB ((rowsL.getD ((i.gOp).toNat) rwo0).gfields) 67) < 0)) w14 (⟨fun h_ => by first | (cases h_; done) | (have h2_ := of_decide_eq_true h_; omega) | (have h2_ := bne_iff_ne.1 h_; omega) | omega, fun h_ => by first | (cases h_; done) | (have h2_ := of_decide_eq_false h_; omega) | (have h2_ := bne_eq_false_iff_eq.1 h_; omega) | omega⟩) S14
     refine J.run 4 K44_37 [(28, .bool (decide (i.gB < 0))), (6, iv i.gB), (5, .int .u8 66), (19, iv 1), (18, iv 3), (17, .slice (some ⟨b2, 0, none⟩) 3 3), (1, pv b1), (3, pv bd5)] w8 (by kernel_rfl) ?_
     by_cases fk9 : i.gB < 0
     ·skip
      refine J.head (.bool true) (congrArg Value.bool (decide_eq_true fk9)) ?_
      refine J.run 15 K44_16 [(19, iv 1), (18, iv 3), (17, .slice (some ⟨b2, 0, none⟩) 3 3), (1, pv b1), (3, pv bd5), (42, .bool true)] w8 (by kernel_rfl) ?_
      exact X2 true w8 (⟨fun h_ => by first | (cases h_; done) | (have h2_ := of_decide_eq_true h_; omega) | (have h2_ := bne_iff_ne.1 h_; omega) | omega, fun h_ => by first | (cases h_; done) | (have h2_ := of_decide_eq_false h_; omega) | (have h2_ := bne_eq_false_iff_eq.1 h_; omega) | omega⟩) S8
     ·skip
      refine J.head (.bool false) (congrArg Value.bool (decide_eq_false fk9)) ?_
      refine J.run 4 K44_38 [(32, .bool (decide (i.gB ≥ 16))), (6, iv i.gB), (5, .int .u8 66), (19, iv 1), (18, iv 3), (17, .slice (some ⟨b2, 0, none⟩) 3 3), (1, pv b1), (3, pv bd5)] w8 (by kernel_rfl) ?_
      by_cases fk10 : i.gB ≥ 16
      ·skip
       refine J.head (.bool true) (congrArg Value.bool (decide_eq_true fk10)) ?_
       refine J.run 11 K44_16 [(19, iv 1), (18, iv 3), (17, .slice (some ⟨b2, 0, none⟩) 3 3), (1, pv b1), (3, pv bd5), (42, .bool true)] w8 (by kernel_rfl) ?_
       exact X2 true w8 (⟨fun h_ => by first | (cases h_; done) | (have h2_ := of_decide_eq_true h_; omega) | (have h2_ := bne_iff_ne.1 h_; omega) | omega, fun h_ => by first | (cases h_; done) | (have h2_ := of_decide_eq_false h_; omega) | (have h2_ := bne_eq_false_iff_eq.1 h_; omega) | omega⟩) S8
      ·skip
       refine J.head (.bool false) (congrArg Value.bool (decide_eq_false fk10)) ?_
       refine J.run 3 K44_39 [(35, .bool (i.gB != 0)), (32, .bool false), (5, .int .u8 66), (19, iv 1), (18, iv 3), (17, .slice (some ⟨b2, 0, none⟩) 3 3), (1, pv b1), (3, pv bd5)] w8 (by kernel_rfl) ?_
       by_cases fk11 : i.gB = 0
       ·skip
        refine J.head (.bool false) (congrArg Value.bool (bne_eq_false_iff_eq.2 fk11)) ?_
        refine J.run 8 K44_16 [(19, iv 1), (18, iv 3), (17, .slice (some ⟨b2, 0, none⟩) 3 3), (1, pv b1), (3, pv bd5), (42, .bool false)] w8 (by kernel_rfl) ?_
        exact X2 false w8 (⟨fun h_ => by first | (cases h_; done) | (have h2_ := of_decide_eq_true h_; omega) | (have h2_ := bne_iff_ne.1 h_; omega) | omega, fun h_ => by first | (cases h_; done) | (have h2_ := of_decide_eq_false h_; omega) | (have h2_ := bne_eq_false_iff_eq.1 h_; omega) | omega⟩) S8
       ·skip
        refine J.head (.bool true) (congrArg Value.bool (bne_iff_ne.2 fk11)) ?_
        refine J.run 1 K44_40 [(36, .pointer (some ⟨bd5, 1, none⟩)), (35, .bool true), (32, .bool false), (5, .int .u8 66), (19, iv 1), (18, iv 3), (17, .slice (some ⟨b2, 0, none⟩) 3 3), (1, pv b1), (3, pv bd5)] w8 (by kernel_rfl) ?_
        refine J.ok (OK.ldBox S8 2 37 9 1 (.string ((rowsL.getD ((i.gOp).toNat) rwo0).gfields)) (by kernel_rfl) rfl (by kernel_rfl)) ?_
        refine J.run 1 K44_41 [(38, .int .u8 66), (37, .string ((rowsL.getD ((i.gOp).toNat) rwo0).gfields)), (35, .bool true), (32, .bool false), (19, iv 1), (18, iv 3), (17, .slice (some ⟨b2, 0, none⟩) 3 3), (1, pv b1), (3, pv bd5)] w8 (by kernel_rfl) ?_
        refine J.callF 39 77 #[.string ((rowsL.getD ((i.gOp).toNat) rwo0).gfields), .int .u8 66] hb77 (by kernel_rfl) (indexbyte_any ((rowsL.getD ((i.gOp).toNat) rwo0).gfields) 66 _) ?_
        rintro _ w15 ⟨rfl, T8⟩
        have S15 : Sep w [rows8 b2 (⟨#[65, 66, 67]⟩ : ByteArray), box bd0 (rowsL.flatMap rwoE) 74, box bd5 (rwoC (rowsL.getD ((i.gOp).toNat) rwo0)) 74, box b1 (insC i) 44] w15 := S8.trans T8
        clear T8 S8
        have := idx_B (op := i.gOp) (by omega)
        refine J.run 4 K44_16 [(19, iv 1), (18, iv 3), (17, .slice (some ⟨b2, 0, none⟩) 3 3), (1, pv b1), (3, pv bd5), (42, .bool (decide ((idxB ((rowsL.getD ((i.gOp).toNat) rwo0).gfields) 66) < 0)))] w15 (by kernel_rfl) ?_
        exact X2 (decide ((idxB ((rowsL.getD ((i.gOp).toNat) rwo0).gfields) 66) < 0)) w15 (⟨fun h_ => by first | (cases h_; done) | (have h2_ := of_decide_eq_true h_; omega) | (have h2_ := bne_iff_ne.1 h_; omega) | omega, fun h_ => by first | (cases h_; done) | (have h2_ := of_decide_eq_false h_; omega) | (have h2_ := bne_eq_false_iff_eq.1 h_; omega) | omega⟩) S15
   refine J.run 4 K44_42 [(28, .bool (decide (i.gA < 0))), (6, iv i.gA), (5, .int .u8 65), (19, iv 0), (18, iv 3), (17, .slice (some ⟨b2, 0, none⟩) 3 3), (1, pv b1), (3, pv bd5)] w6 (by kernel_rfl) ?_
   by_cases fk12 : i.gA < 0
   ·skip
    refine J.head (.bool true) (congrArg Value.bool (decide_eq_true fk12)) ?_
    refine J.run 15 K44_9 [(19, iv 0), (18, iv 3), (17, .slice (some ⟨b2, 0, none⟩) 3 3), (1, pv b1), (3, pv bd5), (42, .bool true)] w6 (by kernel_rfl) ?_
    exact X1 true w6 (⟨fun h_ => by first | (cases h_; done) | (have h2_ := of_decide_eq_true h_; omega) | (have h2_ := bne_iff_ne.1 h_; omega) | omega, fun h_ => by first | (cases h_; done) | (have h2_ := of_decide_eq_false h_; omega) | (have h2_ := bne_eq_false_iff_eq.1 h_; omega) | omega⟩) S6
   ·skip
    refine J.head (.bool false) (congrArg Value.bool (decide_eq_false fk12)) ?_
    refine J.run 4 K44_43 [(32, .bool (decide (i.gA ≥ 16))), (6, iv i.gA), (5, .int .u8 65), (19, iv 0), (18, iv 3), (17, .slice (some ⟨b2, 0, none⟩) 3 3), (1, pv b1), (3, pv bd5)] w6 (by kernel_rfl) ?_
    by_cases fk13 : i.gA ≥ 16
    ·skip
     refine J.head (.bool true) (congrArg Value.bool (decide_eq_true fk13)) ?_
     refine J.run 11 K44_9 [(19, iv 0), (18, iv 3), (17, .slice (some ⟨b2, 0, none⟩) 3 3), (1, pv b1), (3, pv bd5), (42, .bool true)] w6 (by kernel_rfl) ?_
     exact X1 true w6 (⟨fun h_ => by first | (cases h_; done) | (have h2_ := of_decide_eq_true h_; omega) | (have h2_ := bne_iff_ne.1 h_; omega) | omega, fun h_ => by first | (cases h_; done) | (have h2_ := of_decide_eq_false h_; omega) | (have h2_ := bne_eq_false_iff_eq.1 h_; omega) | omega⟩) S6
    ·skip
     refine J.head (.bool false) (congrArg Value.bool (decide_eq_false fk13)) ?_
     refine J.run 3 K44_44 [(35, .bool (i.gA != 0)), (32, .bool false), (5, .int .u8 65), (19, iv 0), (18, iv 3), (17, .slice (some ⟨b2, 0, none⟩) 3 3), (1, pv b1), (3, pv bd5)] w6 (by kernel_rfl) ?_
     by_cases fk14 : i.gA = 0
     ·skip
      refine J.head (.bool false) (congrArg Value.bool (bne_eq_false_iff_eq.2 fk14)) ?_
      refine J.run 8 K44_9 [(19, iv 0), (18, iv 3), (17, .slice (some ⟨b2, 0, none⟩) 3 3), (1, pv b1), (3, pv bd5), (42, .bool false)] w6 (by kernel_rfl) ?_
      exact X1 false w6 (⟨fun h_ => by first | (cases h_; done) | (have h2_ := of_decide_eq_true h_; omega) | (have h2_ := bne_iff_ne.1 h_; omega) | omega, fun h_ => by first | (cases h_; done) | (have h2_ := of_decide_eq_false h_; omega) | (have h2_ := bne_eq_false_iff_eq.1 h_; omega) | omega⟩) S6
     ·skip
      refine J.head (.bool true) (congrArg Value.bool (bne_iff_ne.2 fk14)) ?_
      refine J.run 1 K44_45 [(36, .pointer (some ⟨bd5, 1, none⟩)), (35, .bool true), (32, .bool false), (5, .int .u8 65), (19, iv 0), (18, iv 3), (17, .slice (some ⟨b2, 0, none⟩) 3 3), (1, pv b1), (3, pv bd5)] w6 (by kernel_rfl) ?_
      refine J.ok (OK.ldBox S6 2 37 9 1 (.string ((rowsL.getD ((i.gOp).toNat) rwo0).gfields)) (by kernel_rfl) rfl (by kernel_rfl)) ?_
      refine J.run 1 K44_46 [(38, .int .u8 65), (37, .string ((rowsL.getD ((i.gOp).toNat) rwo0).gfields)), (35, .bool true), (32, .bool false), (19, iv 0), (18, iv 3), (17, .slice (some ⟨b2, 0, none⟩) 3 3), (1, pv b1), (3, pv bd5)] w6 (by kernel_rfl) ?_
      refine J.callF 39 77 #[.string ((rowsL.getD ((i.gOp).toNat) rwo0).gfields), .int .u8 65] hb77 (by kernel_rfl) (indexbyte_any ((rowsL.getD ((i.gOp).toNat) rwo0).gfields) 65 _) ?_
      rintro _ w16 ⟨rfl, T9⟩
      have S16 : Sep w [rows8 b2 (⟨#[65, 66, 67]⟩ : ByteArray), box bd0 (rowsL.flatMap rwoE) 74, box bd5 (rwoC (rowsL.getD ((i.gOp).toNat) rwo0)) 74, box b1 (insC i) 44] w16 := S6.trans T9
      clear T9 S6
      have := idx_A (op := i.gOp) (by omega)
      refine J.run 4 K44_9 [(19, iv 0), (18, iv 3), (17, .slice (some ⟨b2, 0, none⟩) 3 3), (1, pv b1), (3, pv bd5), (42, .bool (decide ((idxB ((rowsL.getD ((i.gOp).toNat) rwo0).gfields) 65) < 0)))] w16 (by kernel_rfl) ?_
      exact X1 (decide ((idxB ((rowsL.getD ((i.gOp).toNat) rwo0).gfields) 65) < 0)) w16 (⟨fun h_ => by first | (cases h_; done) | (have h2_ := of_decide_eq_true h_; omega) | (have h2_ := bne_iff_ne.1 h_; omega) | omega, fun h_ => by first | (cases h_; done) | (have h2_ := of_decide_eq_false h_; omega) | (have h2_ := bne_eq_false_iff_eq.1 h_; omega) | omega⟩) S16
  have W2 : ∀ (bd5 : Nat) (bd0 : Nat) (w17 : World), Sep w [box bd0 (rowsL.flatMap rwoE) 74, box bd5 kvW7_1 74, box b1 (insC i) 44] w17 → WA Tryz.prog 44 53 R K44_3 (fun w_ => Sep w [box b1 (insC i) 44] w_) 1 #[true, true, true, true, true, true, false] [(1, pv b1), (3, pv bd5), (15, .agg (rwoA (rowsL.getD ((i.gOp).toNat) rwo0)))] w17 := by
   intro bd5 bd0 w17 S17
   refine WA.all [6] (by kernel_rfl) rfl ⟨?_, trivial⟩
   ·skip
    refine WO.set #[true, true, true, true, true, true, true] (by kernel_rfl) ?_
    refine WO.stBox S17 1 74 0 (.agg (rwoA (rowsL.getD ((i.gOp).toNat) rwo0))) (rwoC (rowsL.getD ((i.gOp).toNat) rwo0)) [box bd0 (rowsL.flatMap rwoE) 74, box bd5 (rwoC (rowsL.getD ((i.gOp).toNat) rwo0)) 74, box b1 (insC i) 44] (by kernel_rfl) rfl (by kernel_rfl) (by kernel_rfl) rfl ?_
    intro w18 S18
    refine WB.mk ((S18.erase 1).erase 0) ?_
    refine WA.weaken (env' := [(1, pv b1), (3, pv bd5)]) (by kernel_rfl) ?_
    exact W1 bd5 bd0 w18 S18
  have W3 : ∀ (bd5 : Nat) (bd0 : Nat) (w19 : World), Sep w [box bd0 (rowsL.flatMap rwoE) 74, box bd5 kvW7_1 74, box b1 (insC i) 44] w19 → WA Tryz.prog 44 53 R K44_3 (fun w_ => Sep w [box b1 (insC i) 44] w_) 2 #[true, true, true, true, false, true, false] [(1, pv b1), (3, pv bd5), (14, .pointer (some ⟨bd0, ((i.gOp).toNat) * 3, none⟩))] w19 := by
   intro bd5 bd0 w19 S19
   refine WA.all [4] (by kernel_rfl) rfl ⟨?_, trivial⟩
   ·skip
    refine WO.set #[true, true, true, true, true, true, false] (by kernel_rfl) ?_
    refine WO.ok (OK.ldCells 15 74 ⟨bd0, ((i.gOp).toNat) * 3, none⟩ (rwoC (rowsL.getD ((i.gOp).toNat) rwo0)) (by kernel_rfl) (by kernel_rfl) (by kernel_rfl) (box_rec_at (s := 3) (S19.nth 0 rfl) (fun _ => rfl) (by decide) rwo0 ((i.gOp).toNat) (by first | omega | (simp; omega)))) ?_
    refine WB.mk ((S19.erase 1).erase 0) ?_
    refine WA.weaken (env' := [(1, pv b1), (3, pv bd5), (15, .agg (rwoA (rowsL.getD ((i.gOp).toNat) rwo0)))]) (by kernel_rfl) ?_
    exact W2 bd5 bd0 w19 S19
  have W4 : ∀ (bd0 : Nat) (w20 : World), Sep w [box bd0 (rowsL.flatMap rwoE) 74, box b1 (insC i) 44] w20 → WA Tryz.prog 44 53 R K44_3 (fun w_ => Sep w [box b1 (insC i) 44] w_) 2 #[true, true, true, true, true, false, false] [(1, pv b1), (15, .agg (rwoA (rowsL.getD ((i.gOp).toNat) rwo0)))] w20 := by
   intro bd0 w20 S20
   refine WA.all [5] (by kernel_rfl) rfl ⟨?_, trivial⟩
   ·skip
    refine WO.set #[true, true, true, true, true, true, false] (by kernel_rfl) ?_
    refine WO.new S20 3 kvW7_1 74 (by kernel_rfl) ?_
    intro bd5 w21 S21
    refine WB.mk ((S21.erase 1).erase 0) ?_
    refine WA.weaken (env' := [(1, pv b1), (3, pv bd5), (15, .agg (rwoA (rowsL.getD ((i.gOp).toNat) rwo0)))]) (by kernel_rfl) ?_
    have S22 : Sep w [box bd5 kvW7_1 74, box bd0 (rowsL.flatMap rwoE) 74, box b1 (insC i) 44] w21 := S21.front 0 rfl
    have S23 : Sep w [box bd0 (rowsL.flatMap rwoE) 74, box bd5 kvW7_1 74, box b1 (insC i) 44] w21 := S22.front 1 rfl
    exact W2 bd5 bd0 w21 S23
  have W5 : ∀ (bd0 : Nat) (w22 : World), Sep w [box bd0 (rowsL.flatMap rwoE) 74, box b1 (insC i) 44] w22 → WA Tryz.prog 44 53 R K44_3 (fun w_ => Sep w [box b1 (insC i) 44] w_) 3 #[true, true, true, true, false, false, false] [(1, pv b1), (14, .pointer (some ⟨bd0, ((i.gOp).toNat) * 3, none⟩))] w22 := by
   intro bd0 w22 S24
   refine WA.all [4, 5] (by kernel_rfl) rfl ⟨?_, ?_, trivial⟩
   ·skip
    refine WO.set #[true, true, true, true, true, false, false] (by kernel_rfl) ?_
    refine WO.ok (OK.ldCells 15 74 ⟨bd0, ((i.gOp).toNat) * 3, none⟩ (rwoC (rowsL.getD ((i.gOp).toNat) rwo0)) (by kernel_rfl) (by kernel_rfl) (by kernel_rfl) (box_rec_at (s := 3) (S24.nth 0 rfl) (fun _ => rfl) (by decide) rwo0 ((i.gOp).toNat) (by first | omega | (simp; omega)))) ?_
    refine WB.mk (S24.erase 0) ?_
    refine WA.weaken (env' := [(1, pv b1), (15, .agg (rwoA (rowsL.getD ((i.gOp).toNat) rwo0)))]) (by kernel_rfl) ?_
    exact W4 bd0 w22 S24
   ·skip
    refine WO.set #[true, true, true, true, false, true, false] (by kernel_rfl) ?_
    refine WO.new S24 3 kvW7_1 74 (by kernel_rfl) ?_
    intro bd5 w23 S25
    refine WB.mk ((S25.erase 1).erase 0) ?_
    refine WA.weaken (env' := [(1, pv b1), (3, pv bd5), (14, .pointer (some ⟨bd0, ((i.gOp).toNat) * 3, none⟩))]) (by kernel_rfl) ?_
    have S26 : Sep w [box bd5 kvW7_1 74, box bd0 (rowsL.flatMap rwoE) 74, box b1 (insC i) 44] w23 := S25.front 0 rfl
    have S27 : Sep w [box bd0 (rowsL.flatMap rwoE) 74, box bd5 kvW7_1 74, box b1 (insC i) 44] w23 := S26.front 1 rfl
    exact W3 bd5 bd0 w23 S27
  have W6 : ∀ (bd5 : Nat) (w24 : World), Sep w [box bd5 kvW7_1 74, box b1 (insC i) 44] w24 → WA Tryz.prog 44 53 R K44_3 (fun w_ => Sep w [box b1 (insC i) 44] w_) 4 #[false, true, true, false, false, true, false] [(1, pv b1), (3, pv bd5), (13, iv i.gOp)] w24 := by
   intro bd5 w24 S28
   refine WA.all [0] (by kernel_rfl) rfl ⟨?_, trivial⟩
   ·skip
    refine WO.set #[true, true, true, false, false, true, false] (by kernel_rfl) ?_
    refine WO.callF 11 42 #[] hb42 (by kernel_rfl) (rows_any _) ?_
    rintro _ w25 ⟨bd0, rfl, T10⟩
    have S29 : Sep w [box bd0 (rowsL.flatMap rwoE) 74, box bd5 kvW7_1 74, box b1 (insC i) 44] w25 := S28.trans T10
    clear T10 S28
    refine WB.mk ((S29.erase 1).erase 0) ?_
    refine WA.takeOK 3 #[true, true, true, true, false, true, false] (by kernel_rfl) (by kernel_rfl) (by kernel_rfl) (by kernel_rfl) (fun w_ S_ => OK.index 14 75 3 (some ⟨bd0, 0, none⟩) ⟨bd0, 0, none⟩ 23 (i.gOp).toNat i.gOp ⟨bd0, ((i.gOp).toNat) * 3, none⟩ (by kernel_rfl) (by kernel_rfl) rfl (by omega) (by first | omega | (simp; omega)) (by rw [add_block, Nat.zero_add])) rfl ?_
    refine WA.weaken (env' := [(1, pv b1), (3, pv bd5), (14, .pointer (some ⟨bd0, ((i.gOp).toNat) * 3, none⟩))]) (by kernel_rfl) ?_
    exact W3 bd5 bd0 w25 S29
  have W7 : ∀ (w26 : World), Sep w [box b1 (insC i) 44] w26 → WA Tryz.prog 44 53 R K44_3 (fun w_ => Sep w [box b1 (insC i) 44] w_) 5 #[false, true, true, false, false, false, false] [(1, pv b1), (13, iv i.gOp)] w26 := by
   intro w26 S30
   refine WA.all [0, 5] (by kernel_rfl) rfl ⟨?_, ?_, trivial⟩
   ·skip
    refine WO.set #[true, true, true, false, false, false, false] (by kernel_rfl) ?_
    refine WO.callF 11 42 #[] hb42 (by kernel_rfl) (rows_any _) ?_
    rintro _ w27 ⟨bd0, rfl, T11⟩
    have S31 : Sep w [box bd0 (rowsL.flatMap rwoE) 74, box b1 (insC i) 44] w27 := S30.trans T11
    clear T11 S30
    refine WB.mk (S31.erase 0) ?_
    refine WA.takeOK 3 #[true, true, true, true, false, false, false] (by kernel_rfl) (by kernel_rfl) (by kernel_rfl) (by kernel_rfl) (fun w_ S_ => OK.index 14 75 3 (some ⟨bd0, 0, none⟩) ⟨bd0, 0, none⟩ 23 (i.gOp).toNat i.gOp ⟨bd0, ((i.gOp).toNat) * 3, none⟩ (by kernel_rfl) (by kernel_rfl) rfl (by omega) (by first | omega | (simp; omega)) (by rw [add_block, Nat.zero_add])) rfl ?_
    refine WA.weaken (env' := [(1, pv b1), (14, .pointer (some ⟨bd0, ((i.gOp).toNat) * 3, none⟩))]) (by kernel_rfl) ?_
    exact W5 bd0 w27 S31
   ·skip
    refine WO.set #[false, true, true, false, false, true, false] (by kernel_rfl) ?_
    refine WO.new S30 3 kvW7_1 74 (by kernel_rfl) ?_
    intro bd5 w28 S32
    refine WB.mk (S32.erase 0) ?_
    refine WA.weaken (env' := [(1, pv b1), (3, pv bd5), (13, iv i.gOp)]) (by kernel_rfl) ?_
    exact W6 bd5 w28 S32
  refine J.drawAny (fun w_ => Sep w [box b1 (insC i) 44] w_) S2 7 #[false, false, false, false, false, false, false] Tryz.mixed (by kernel_rfl) (by kernel_rfl) (by kernel_rfl) ?_
  intro w29 S33
  refine WB.mk S33 ?_
  refine WA.take 1 12 (pv b1) #[false, true, false, false, false, false, false] (by kernel_rfl) (by kernel_rfl) (by kernel_rfl) (fun _ _ => by kernel_rfl) (by kernel_rfl) ?_
  refine WA.takeOK 2 #[false, true, true, false, false, false, false] (by kernel_rfl) (by kernel_rfl) (by kernel_rfl) (by kernel_rfl) (fun w_ S_ => OK.ldBox S_ 0 13 3 0 (iv i.gOp) (by kernel_rfl) rfl (by kernel_rfl)) rfl ?_
  refine WA.weaken (env' := [(1, pv b1), (13, iv i.gOp)]) (by kernel_rfl) ?_
  exact W7 w29 S33
 ·skip
  refine J.head (.bool true) (congrArg Value.bool (by rw [fk1]; rfl)) ?_
  have fb11 := of_decide_eq_false fk1
  refine J.run 5 K44_47 [(2, .bool false)] w2 (by kernel_rfl) ?_
  refine J.ret Tryz.f44 [.bool false] Tryz.func44 ⟨by kernel_rfl, trivial⟩ ?_
  refine hR _ _ ?_
  exact ⟨congrArg Value.bool (decide_eq_false (show ¬ (formP i.gOp i.gA i.gB i.gC i.gK) by omega)).symm, S2.nil⟩

end Go.Proofs.YthfpejhonhaggaaGreatDoor

