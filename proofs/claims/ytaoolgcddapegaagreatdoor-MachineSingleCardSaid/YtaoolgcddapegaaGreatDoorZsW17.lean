/- Walks of functions of this seat, printed by a program over the engine. Conditions: as each theorem says. -/
import Derived.Test.YtaoolgcddapegaaGreatDoorZsV15
namespace Go.Proofs.YtaoolgcddapegaaGreatDoor
noncomputable section
open Go.Eng Go.RowKit
set_option linter.unusedSimpArgs false
set_option linter.unusedVariables false
set_option maxRecDepth 20000
set_option maxHeartbeats 20000000
abbrev kvW17_1 : List Value := [.string ByteArray.empty, .string ByteArray.empty, iv 0]
theorem hb49 : HasBody Tryz.prog 49 := fun _ _ => by kernel_rfl
def K49_0 := adv 16 [false] (bodyOf Tryz.f49)
def K49_1 := List.drop 1 (adv 33 [true] (rRest (adv 16 [false] (bodyOf Tryz.f49))))
def K49_2 := List.drop 1 (adv 31 [false, true] K49_1)
def K49_3 := List.drop 1 (adv 31 [false, true] K49_2)
theorem formed_any (i : Ins) (w : World) (hi : insQ w i) : Ret Tryz.prog 49 #[.agg (insA i)] w (fun v w' => v = .bool (formB i) ∧ Sep w [] w') := by
 refine Ret.st (N := 53) Tryz.func49 fun R hR S0 => ?_
 obtain ⟨q1, q2, q3, q4, q5, _⟩ := id hi
 have hrl_ := rows_len
 refine J.nw 2 [] [] [] S0 1 (insC i) 48 fun b1 w1 S1 => ?_
 refine J.lb 6 [] [] [] S1 0 rfl 8 (iv i.gOp) ?_
 refine J.c0 0 [] [] [] S1 9 hb83 (known_any i.gOp _) fun w2 S2 => ?_
 refine J.bn 2 [] [] [] 10 (decide (1 ≤ i.gOp ∧ i.gOp ≤ 22)) (fun fk1 => ?_) fun fk1 => ?_
 ·skip
  have fb1 := of_decide_eq_true fk1
  have hrs := rows_size (op := i.gOp) (by omega)
  refine J.r 3 [false] [] [] ?_
  have W1 : ∀ (bd5 : Nat) (bd0 : Nat) (w3 : World), Sep w [box bd0 (rowsL.flatMap rwoE) 109, box bd5 (rwoC (rowsL.getD ((i.gOp).toNat) rwo0)) 109, box b1 (insC i) 48] w3 → WA Tryz.prog 49 53 R K49_0 (fun w_ => Sep w [box b1 (insC i) 48] w_) 0 #[true, true, true, true, true, true, true] [(1, pv b1), (3, pv bd5)] w3 := by
   intro bd5 bd0 w3 S3
   refine WA.done (by kernel_rfl) ?_
   refine J.r 3 [] [] [] ?_
   refine J.newSlice S3 16 3 [.int .u8 65, .int .u8 66, .int .u8 67] 5 (by kernel_rfl) ?_
   intro b2 w4 S4
   refine J.constBytes (b := b2) (e := 5) S4 0 (⟨#[65, 66, 67]⟩ : ByteArray) 17 52 3 3 (by kernel_rfl) (by kernel_rfl) (by kernel_rfl) ?_
   intro w5 S5
   replace S5 : Sep w [rows8 b2 (⟨#[65, 66, 67]⟩ : ByteArray), box bd0 (rowsL.flatMap rwoE) 109, box bd5 (rwoC (rowsL.getD ((i.gOp).toNat) rwo0)) 109, box b1 (insC i) 48] w5 := S5
   refine J.r 16 [true] [(19, iv 0), (18, iv 3)] [] ?_
   obtain ⟨p1, hp1, hc1⟩ := rows8_at (S5.nth 0 rfl) 0 (by first | decide | omega | (simp; omega))
   have := byteAt_bounds (⟨#[65, 66, 67]⟩ : ByteArray) 0
   have hc2 : w5.cell? (p1.add 0) = some (.int .u8 65) := hc1
   refine J.ok (OK.index 21 52 1 (some ⟨b2, 0, none⟩) p1 3 0 0 (p1.add 0) (by kernel_rfl) (by kernel_rfl) hp1 (by omega) (by first | omega | (simp; omega)) (by rw [Nat.mul_one])) ?_
   refine J.ok (OK.ldCell 22 5 (p1.add 0) (.int .u8 65) (by kernel_rfl) (by kernel_rfl) hc2) ?_
   refine J.lb 4 [] [(5, .int .u8 65)] [] S5 3 rfl 23 (.agg (insA i)) ?_
   refine J.r 1 [] [(24, .int .u8 65)] [] ?_
   refine J.c0 0 [] [] [] S5 25 hb57 (field_any i 65 _) fun w6 S6 => ?_
   refine J.head (iv i.gA) (congrArg (Value.int .i64) rfl) ?_
   have X1 : ∀ (tb0 : Bool) (w7 : World), ((tb0 = true → ¬ ((0 ≤ i.gA ∧ i.gA ≤ 15) ∧ (1 ≤ i.gOp ∨ i.gA = 0))) ∧ (tb0 = false → (0 ≤ i.gA ∧ i.gA ≤ 15) ∧ (1 ≤ i.gOp ∨ i.gA = 0))) → Sep w [rows8 b2 (⟨#[65, 66, 67]⟩ : ByteArray), box bd0 (rowsL.flatMap rwoE) 109, box bd5 (rwoC (rowsL.getD ((i.gOp).toNat) rwo0)) 109, box b1 (insC i) 48] w7 → J Tryz.prog 49 53 R K49_1 [(19, iv 0), (18, iv 3), (17, .slice (some ⟨b2, 0, none⟩) 3 3), (1, pv b1), (3, pv bd5), (42, .bool tb0)] w7 := by
    intro tb0 w7 htb0 S7
    refine J.b 0 [] [] [] 42 tb0 (fun fk2 => ?_) fun fk2 => ?_
    ·skip
     have fb3 := htb0.1 fk2
     refine J.e 5 [.bool false] Tryz.func49 (hR _ _ ?_)
     exact ⟨congrArg Value.bool (decide_eq_false (show ¬ (formP i.gOp i.gA i.gB i.gC i.gK) by omega)).symm, S7.nil⟩
    have fb4 := htb0.2 fk2
    refine J.r 19 [false, true] [(19, iv 1)] [] ?_
    obtain ⟨p2, hp2, hc3⟩ := rows8_at (S7.nth 0 rfl) 1 (by first | decide | omega | (simp; omega))
    have := byteAt_bounds (⟨#[65, 66, 67]⟩ : ByteArray) 1
    have hc4 : w7.cell? (p2.add 1) = some (.int .u8 66) := hc3
    refine J.ok (OK.index 21 52 1 (some ⟨b2, 0, none⟩) p2 3 1 1 (p2.add 1) (by kernel_rfl) (by kernel_rfl) hp2 (by omega) (by first | omega | (simp; omega)) (by rw [Nat.mul_one])) ?_
    refine J.ok (OK.ldCell 22 5 (p2.add 1) (.int .u8 66) (by kernel_rfl) (by kernel_rfl) hc4) ?_
    refine J.lb 4 [] [(5, .int .u8 66)] [] S7 3 rfl 23 (.agg (insA i)) ?_
    refine J.r 1 [] [(24, .int .u8 66)] [] ?_
    refine J.c0 0 [] [] [] S7 25 hb57 (field_any i 66 _) fun w8 S8 => ?_
    refine J.head (iv i.gB) (congrArg (Value.int .i64) rfl) ?_
    have X2 : ∀ (tb1 : Bool) (w9 : World), ((tb1 = true → ¬ ((0 ≤ i.gB ∧ i.gB ≤ 15) ∧ (4 ≤ i.gOp ∨ i.gB = 0))) ∧ (tb1 = false → (0 ≤ i.gB ∧ i.gB ≤ 15) ∧ (4 ≤ i.gOp ∨ i.gB = 0))) → Sep w [rows8 b2 (⟨#[65, 66, 67]⟩ : ByteArray), box bd0 (rowsL.flatMap rwoE) 109, box bd5 (rwoC (rowsL.getD ((i.gOp).toNat) rwo0)) 109, box b1 (insC i) 48] w9 → J Tryz.prog 49 53 R K49_2 [(19, iv 1), (18, iv 3), (17, .slice (some ⟨b2, 0, none⟩) 3 3), (1, pv b1), (3, pv bd5), (42, .bool tb1)] w9 := by
     intro tb1 w9 htb1 S9
     refine J.b 0 [] [] [] 42 tb1 (fun fk3 => ?_) fun fk3 => ?_
     ·skip
      have fb5 := htb1.1 fk3
      refine J.e 5 [.bool false] Tryz.func49 (hR _ _ ?_)
      exact ⟨congrArg Value.bool (decide_eq_false (show ¬ (formP i.gOp i.gA i.gB i.gC i.gK) by omega)).symm, S9.nil⟩
     have fb6 := htb1.2 fk3
     refine J.r 19 [false, true] [(19, iv 2)] [] ?_
     obtain ⟨p3, hp3, hc5⟩ := rows8_at (S9.nth 0 rfl) 2 (by first | decide | omega | (simp; omega))
     have := byteAt_bounds (⟨#[65, 66, 67]⟩ : ByteArray) 2
     have hc6 : w9.cell? (p3.add 2) = some (.int .u8 67) := hc5
     refine J.ok (OK.index 21 52 1 (some ⟨b2, 0, none⟩) p3 3 2 2 (p3.add 2) (by kernel_rfl) (by kernel_rfl) hp3 (by omega) (by first | omega | (simp; omega)) (by rw [Nat.mul_one])) ?_
     refine J.ok (OK.ldCell 22 5 (p3.add 2) (.int .u8 67) (by kernel_rfl) (by kernel_rfl) hc6) ?_
     refine J.lb 4 [] [(5, .int .u8 67)] [] S9 3 rfl 23 (.agg (insA i)) ?_
     refine J.r 1 [] [(24, .int .u8 67)] [] ?_
     refine J.c0 0 [] [] [] S9 25 hb57 (field_any i 67 _) fun w10 S10 => ?_
     refine J.head (iv i.gC) (congrArg (Value.int .i64) rfl) ?_
     have X3 : ∀ (tb2 : Bool) (w11 : World), ((tb2 = true → ¬ ((0 ≤ i.gC ∧ i.gC ≤ 15) ∧ (useC i.gOp ∨ i.gC = 0))) ∧ (tb2 = false → (0 ≤ i.gC ∧ i.gC ≤ 15) ∧ (useC i.gOp ∨ i.gC = 0))) → Sep w [rows8 b2 (⟨#[65, 66, 67]⟩ : ByteArray), box bd0 (rowsL.flatMap rwoE) 109, box bd5 (rwoC (rowsL.getD ((i.gOp).toNat) rwo0)) 109, box b1 (insC i) 48] w11 → J Tryz.prog 49 53 R K49_3 [(19, iv 2), (18, iv 3), (17, .slice (some ⟨b2, 0, none⟩) 3 3), (1, pv b1), (3, pv bd5), (42, .bool tb2)] w11 := by
      intro tb2 w11 htb2 S11
      refine J.b 0 [] [] [] 42 tb2 (fun fk4 => ?_) fun fk4 => ?_
      ·skip
       have fb7 := htb2.1 fk4
       refine J.e 5 [.bool false] Tryz.func49 (hR _ _ ?_)
       exact ⟨congrArg Value.bool (decide_eq_false (show ¬ (formP i.gOp i.gA i.gB i.gC i.gK) by omega)).symm, S11.nil⟩
      have fb8 := htb2.2 fk4
      refine J.lb 19 [false, false] [] [19] S11 2 rfl 45 (.string ((rowsL.getD ((i.gOp).toNat) rwo0).gfields)) ?_
      refine J.c0 0 [] [] [] S11 46 hb85 (hassuffix_any ((rowsL.getD ((i.gOp).toNat) rwo0).gfields) (⟨#[75]⟩ : ByteArray) _ (by omega)) fun w12 S12 => ?_
      refine J.bn 2 [] [] [] 47 (sufB ((rowsL.getD ((i.gOp).toNat) rwo0).gfields) (⟨#[75]⟩ : ByteArray)) (fun fk5 => ?_) fun fk5 => ?_
      ·skip
       have fb9 := (suf_K (op := i.gOp) (by omega)).1 fk5
       refine J.lb 4 [false] [] [] S12 3 rfl 51 (.agg (insA i)) ?_
       refine J.c0 0 [] [] [] S12 52 hb86 (constant_any i _ (insQ_sep hi S12)) fun w13 S13 => ?_
       refine J.e 2 [.bool (kB (i).gOp (i).gK)] Tryz.func49 (hR _ _ ?_)
       exact ⟨congrArg Value.bool (by show _ = decide (formP i.gOp i.gA i.gB i.gC i.gK); cases hz_ : kB (i).gOp (i).gK with | true => (have h_ := kB_iff.1 hz_; exact (decide_eq_true (by omega)).symm) | false => (have h_ := mt kB_iff.2 (by rw [hz_]; decide); exact (decide_eq_false (by omega)).symm)), S13.nil⟩
      have fb10 := mt (suf_K (op := i.gOp) (by omega)).2 (by rw [fk5]; decide)
      refine J.lb 4 [true] [] [] S12 3 rfl 49 (iv i.gK) ?_
      refine J.e 3 [.bool (i.gK == 0)] Tryz.func49 (hR _ _ ?_)
      exact ⟨congrArg Value.bool (by show (i.gK == 0) = decide (formP i.gOp i.gA i.gB i.gC i.gK); by_cases hz_ : i.gK = 0; (rw [(beq_iff_eq.2 hz_)]; first | exact (decide_eq_true (by omega)).symm | exact (decide_eq_false (by omega)).symm); (rw [(beq_eq_false_iff_ne.2 hz_)]; first | exact (decide_eq_false (by omega)).symm | exact (decide_eq_true (by omega)).symm)), S12.nil⟩
     refine J.c 7 [] [(6, iv i.gC)] [] 28 (i.gC < 0) (fun fk6 => ?_) fun fk6 => ?_
     ·skip
      exact J.t 15 (X3 true w10 (⟨fun h_ => by first | (cases h_; done) | (have h2_ := of_decide_eq_true h_; omega) | (have h2_ := bne_iff_ne.1 h_; omega) | omega, fun h_ => by first | (cases h_; done) | (have h2_ := of_decide_eq_false h_; omega) | (have h2_ := bne_eq_false_iff_eq.1 h_; omega) | omega⟩) S10)
     refine J.c 4 [] [] [] 32 (i.gC ≥ 16) (fun fk7 => ?_) fun fk7 => ?_
     ·skip
      exact J.t 11 (X3 true w10 (⟨fun h_ => by first | (cases h_; done) | (have h2_ := of_decide_eq_true h_; omega) | (have h2_ := bne_iff_ne.1 h_; omega) | omega, fun h_ => by first | (cases h_; done) | (have h2_ := of_decide_eq_false h_; omega) | (have h2_ := bne_eq_false_iff_eq.1 h_; omega) | omega⟩) S10)
     refine J.cn 3 [] [] [] 35 (i.gC = 0) (fun fk8 => ?_) fun fk8 => ?_
     ·skip
      exact J.t 8 (X3 false w10 (⟨fun h_ => by first | (cases h_; done) | (have h2_ := of_decide_eq_true h_; omega) | (have h2_ := bne_iff_ne.1 h_; omega) | omega, fun h_ => by first | (cases h_; done) | (have h2_ := of_decide_eq_false h_; omega) | (have h2_ := bne_eq_false_iff_eq.1 h_; omega) | omega⟩) S10)
     refine J.lb 1 [] [] [] S10 2 rfl 37 (.string ((rowsL.getD ((i.gOp).toNat) rwo0).gfields)) ?_
     refine J.r 1 [] [(38, .int .u8 67)] [] ?_
     refine J.c0 0 [] [] [] S10 39 hb84 (indexbyte_any ((rowsL.getD ((i.gOp).toNat) rwo0).gfields) 67 _) fun w14 S14 => ?_
     have := idx_C (op := i.gOp) (by omega)
     exact J.t 4 (X3 (decide ((idxB ((rowsL.getD ((i.gOp).toNat) rwo0).gfields) 67) < 0)) w14 (⟨fun h_ => by first | (cases h_; done) | (have h2_ := of_decide_eq_true h_; omega) | (have h2_ := bne_iff_ne.1 h_; omega) | omega, fun h_ => by first | (cases h_; done) | (have h2_ := of_decide_eq_false h_; omega) | (have h2_ := bne_eq_false_iff_eq.1 h_; omega) | omega⟩) S14)
    refine J.c 7 [] [(6, iv i.gB)] [] 28 (i.gB < 0) (fun fk9 => ?_) fun fk9 => ?_
    ·skip
     exact J.t 15 (X2 true w8 (⟨fun h_ => by first | (cases h_; done) | (have h2_ := of_decide_eq_true h_; omega) | (have h2_ := bne_iff_ne.1 h_; omega) | omega, fun h_ => by first | (cases h_; done) | (have h2_ := of_decide_eq_false h_; omega) | (have h2_ := bne_eq_false_iff_eq.1 h_; omega) | omega⟩) S8)
    refine J.c 4 [] [] [] 32 (i.gB ≥ 16) (fun fk10 => ?_) fun fk10 => ?_
    ·skip
     exact J.t 11 (X2 true w8 (⟨fun h_ => by first | (cases h_; done) | (have h2_ := of_decide_eq_true h_; omega) | (have h2_ := bne_iff_ne.1 h_; omega) | omega, fun h_ => by first | (cases h_; done) | (have h2_ := of_decide_eq_false h_; omega) | (have h2_ := bne_eq_false_iff_eq.1 h_; omega) | omega⟩) S8)
    refine J.cn 3 [] [] [] 35 (i.gB = 0) (fun fk11 => ?_) fun fk11 => ?_
    ·skip
     exact J.t 8 (X2 false w8 (⟨fun h_ => by first | (cases h_; done) | (have h2_ := of_decide_eq_true h_; omega) | (have h2_ := bne_iff_ne.1 h_; omega) | omega, fun h_ => by first | (cases h_; done) | (have h2_ := of_decide_eq_false h_; omega) | (have h2_ := bne_eq_false_iff_eq.1 h_; omega) | omega⟩) S8)
    refine J.lb 1 [] [] [] S8 2 rfl 37 (.string ((rowsL.getD ((i.gOp).toNat) rwo0).gfields)) ?_
    refine J.r 1 [] [(38, .int .u8 66)] [] ?_
    refine J.c0 0 [] [] [] S8 39 hb84 (indexbyte_any ((rowsL.getD ((i.gOp).toNat) rwo0).gfields) 66 _) fun w15 S15 => ?_
    have := idx_B (op := i.gOp) (by omega)
    exact J.t 4 (X2 (decide ((idxB ((rowsL.getD ((i.gOp).toNat) rwo0).gfields) 66) < 0)) w15 (⟨fun h_ => by first | (cases h_; done) | (have h2_ := of_decide_eq_true h_; omega) | (have h2_ := bne_iff_ne.1 h_; omega) | omega, fun h_ => by first | (cases h_; done) | (have h2_ := of_decide_eq_false h_; omega) | (have h2_ := bne_eq_false_iff_eq.1 h_; omega) | omega⟩) S15)
   refine J.c 7 [] [(6, iv i.gA)] [] 28 (i.gA < 0) (fun fk12 => ?_) fun fk12 => ?_
   ·skip
    exact J.t 15 (X1 true w6 (⟨fun h_ => by first | (cases h_; done) | (have h2_ := of_decide_eq_true h_; omega) | (have h2_ := bne_iff_ne.1 h_; omega) | omega, fun h_ => by first | (cases h_; done) | (have h2_ := of_decide_eq_false h_; omega) | (have h2_ := bne_eq_false_iff_eq.1 h_; omega) | omega⟩) S6)
   refine J.c 4 [] [] [] 32 (i.gA ≥ 16) (fun fk13 => ?_) fun fk13 => ?_
   ·skip
    exact J.t 11 (X1 true w6 (⟨fun h_ => by first | (cases h_; done) | (have h2_ := of_decide_eq_true h_; omega) | (have h2_ := bne_iff_ne.1 h_; omega) | omega, fun h_ => by first | (cases h_; done) | (have h2_ := of_decide_eq_false h_; omega) | (have h2_ := bne_eq_false_iff_eq.1 h_; omega) | omega⟩) S6)
   refine J.cn 3 [] [] [] 35 (i.gA = 0) (fun fk14 => ?_) fun fk14 => ?_
   ·skip
    exact J.t 8 (X1 false w6 (⟨fun h_ => by first | (cases h_; done) | (have h2_ := of_decide_eq_true h_; omega) | (have h2_ := bne_iff_ne.1 h_; omega) | omega, fun h_ => by first | (cases h_; done) | (have h2_ := of_decide_eq_false h_; omega) | (have h2_ := bne_eq_false_iff_eq.1 h_; omega) | omega⟩) S6)
   refine J.lb 1 [] [] [] S6 2 rfl 37 (.string ((rowsL.getD ((i.gOp).toNat) rwo0).gfields)) ?_
   refine J.r 1 [] [(38, .int .u8 65)] [] ?_
   refine J.c0 0 [] [] [] S6 39 hb84 (indexbyte_any ((rowsL.getD ((i.gOp).toNat) rwo0).gfields) 65 _) fun w16 S16 => ?_
   have := idx_A (op := i.gOp) (by omega)
   exact J.t 4 (X1 (decide ((idxB ((rowsL.getD ((i.gOp).toNat) rwo0).gfields) 65) < 0)) w16 (⟨fun h_ => by first | (cases h_; done) | (have h2_ := of_decide_eq_true h_; omega) | (have h2_ := bne_iff_ne.1 h_; omega) | omega, fun h_ => by first | (cases h_; done) | (have h2_ := of_decide_eq_false h_; omega) | (have h2_ := bne_eq_false_iff_eq.1 h_; omega) | omega⟩) S16)
  have W2 : ∀ (bd5 : Nat) (bd0 : Nat) (w17 : World), Sep w [box bd0 (rowsL.flatMap rwoE) 109, box bd5 kvW17_1 109, box b1 (insC i) 48] w17 → WA Tryz.prog 49 53 R K49_0 (fun w_ => Sep w [box b1 (insC i) 48] w_) 1 #[true, true, true, true, true, true, false] [(1, pv b1), (3, pv bd5), (15, .agg (rwoA (rowsL.getD ((i.gOp).toNat) rwo0)))] w17 := by
   intro bd5 bd0 w17 S17
   refine WA.all [6] (by kernel_rfl) rfl ⟨?_, trivial⟩
   refine WO.set #[true, true, true, true, true, true, true] (by kernel_rfl) ?_
   refine WO.stBox S17 1 109 0 (.agg (rwoA (rowsL.getD ((i.gOp).toNat) rwo0))) (rwoC (rowsL.getD ((i.gOp).toNat) rwo0)) [box bd0 (rowsL.flatMap rwoE) 109, box bd5 (rwoC (rowsL.getD ((i.gOp).toNat) rwo0)) 109, box b1 (insC i) 48] (by kernel_rfl) rfl (by kernel_rfl) (by kernel_rfl) rfl ?_
   intro w18 S18
   refine WB.mk ((S18.erase 1).erase 0) ?_
   refine WA.weaken (env' := [(1, pv b1), (3, pv bd5)]) (by kernel_rfl) ?_
   exact W1 bd5 bd0 w18 S18
  have W3 : ∀ (bd5 : Nat) (bd0 : Nat) (w19 : World), Sep w [box bd0 (rowsL.flatMap rwoE) 109, box bd5 kvW17_1 109, box b1 (insC i) 48] w19 → WA Tryz.prog 49 53 R K49_0 (fun w_ => Sep w [box b1 (insC i) 48] w_) 2 #[true, true, true, true, false, true, false] [(1, pv b1), (3, pv bd5), (14, .pointer (some ⟨bd0, ((i.gOp).toNat) * 3, none⟩))] w19 := by
   intro bd5 bd0 w19 S19
   refine WA.all [4] (by kernel_rfl) rfl ⟨?_, trivial⟩
   refine WO.set #[true, true, true, true, true, true, false] (by kernel_rfl) ?_
   refine WO.ok (OK.ldCells 15 109 ⟨bd0, ((i.gOp).toNat) * 3, none⟩ (rwoC (rowsL.getD ((i.gOp).toNat) rwo0)) (by kernel_rfl) (by kernel_rfl) (by kernel_rfl) (box_rec_at (s := 3) (S19.nth 0 rfl) (fun _ => rfl) (by decide) rwo0 ((i.gOp).toNat) (by first | omega | (simp; omega)))) ?_
   refine WB.mk ((S19.erase 1).erase 0) ?_
   refine WA.weaken (env' := [(1, pv b1), (3, pv bd5), (15, .agg (rwoA (rowsL.getD ((i.gOp).toNat) rwo0)))]) (by kernel_rfl) ?_
   exact W2 bd5 bd0 w19 S19
  have W4 : ∀ (bd0 : Nat) (w20 : World), Sep w [box bd0 (rowsL.flatMap rwoE) 109, box b1 (insC i) 48] w20 → WA Tryz.prog 49 53 R K49_0 (fun w_ => Sep w [box b1 (insC i) 48] w_) 2 #[true, true, true, true, true, false, false] [(1, pv b1), (15, .agg (rwoA (rowsL.getD ((i.gOp).toNat) rwo0)))] w20 := by
   intro bd0 w20 S20
   refine WA.all [5] (by kernel_rfl) rfl ⟨?_, trivial⟩
   refine WO.set #[true, true, true, true, true, true, false] (by kernel_rfl) ?_
   refine WO.new S20 3 kvW17_1 109 (by kernel_rfl) ?_
   intro bd5 w21 S21
   refine WB.mk ((S21.erase 1).erase 0) ?_
   refine WA.weaken (env' := [(1, pv b1), (3, pv bd5), (15, .agg (rwoA (rowsL.getD ((i.gOp).toNat) rwo0)))]) (by kernel_rfl) ?_
   have S22 : Sep w [box bd5 kvW17_1 109, box bd0 (rowsL.flatMap rwoE) 109, box b1 (insC i) 48] w21 := S21.front 0 rfl
   have S23 : Sep w [box bd0 (rowsL.flatMap rwoE) 109, box bd5 kvW17_1 109, box b1 (insC i) 48] w21 := S22.front 1 rfl
   exact W2 bd5 bd0 w21 S23
  have W5 : ∀ (bd0 : Nat) (w22 : World), Sep w [box bd0 (rowsL.flatMap rwoE) 109, box b1 (insC i) 48] w22 → WA Tryz.prog 49 53 R K49_0 (fun w_ => Sep w [box b1 (insC i) 48] w_) 3 #[true, true, true, true, false, false, false] [(1, pv b1), (14, .pointer (some ⟨bd0, ((i.gOp).toNat) * 3, none⟩))] w22 := by
   intro bd0 w22 S24
   refine WA.all [4, 5] (by kernel_rfl) rfl ⟨?_, ?_, trivial⟩
   ·skip
    refine WO.set #[true, true, true, true, true, false, false] (by kernel_rfl) ?_
    refine WO.ok (OK.ldCells 15 109 ⟨bd0, ((i.gOp).toNat) * 3, none⟩ (rwoC (rowsL.getD ((i.gOp).toNat) rwo0)) (by kernel_rfl) (by kernel_rfl) (by kernel_rfl) (box_rec_at (s := 3) (S24.nth 0 rfl) (fun _ => rfl) (by decide) rwo0 ((i.gOp).toNat) (by first | omega | (simp; omega)))) ?_
    refine WB.mk (S24.erase 0) ?_
    refine WA.weaken (env' := [(1, pv b1), (15, .agg (rwoA (rowsL.getD ((i.gOp).toNat) rwo0)))]) (by kernel_rfl) ?_
    exact W4 bd0 w22 S24
   refine WO.set #[true, true, true, true, false, true, false] (by kernel_rfl) ?_
   refine WO.new S24 3 kvW17_1 109 (by kernel_rfl) ?_
   intro bd5 w23 S25
   refine WB.mk ((S25.erase 1).erase 0) ?_
   refine WA.weaken (env' := [(1, pv b1), (3, pv bd5), (14, .pointer (some ⟨bd0, ((i.gOp).toNat) * 3, none⟩))]) (by kernel_rfl) ?_
   have S26 : Sep w [box bd5 kvW17_1 109, box bd0 (rowsL.flatMap rwoE) 109, box b1 (insC i) 48] w23 := S25.front 0 rfl
   have S27 : Sep w [box bd0 (rowsL.flatMap rwoE) 109, box bd5 kvW17_1 109, box b1 (insC i) 48] w23 := S26.front 1 rfl
   exact W3 bd5 bd0 w23 S27
  have W6 : ∀ (bd5 : Nat) (w24 : World), Sep w [box bd5 kvW17_1 109, box b1 (insC i) 48] w24 → WA Tryz.prog 49 53 R K49_0 (fun w_ => Sep w [box b1 (insC i) 48] w_) 4 #[false, true, true, false, false, true, false] [(1, pv b1), (3, pv bd5), (13, iv i.gOp)] w24 := by
   intro bd5 w24 S28
   refine WA.all [0] (by kernel_rfl) rfl ⟨?_, trivial⟩
   refine WO.set #[true, true, true, false, false, true, false] (by kernel_rfl) ?_
   refine WO.callF 11 52 #[] hb52 (by kernel_rfl) (rows_any _) ?_
   rintro _ w25 ⟨bd0, rfl, T1⟩
   have S29 : Sep w [box bd0 (rowsL.flatMap rwoE) 109, box bd5 kvW17_1 109, box b1 (insC i) 48] w25 := S28.trans T1
   clear T1 S28
   refine WB.mk ((S29.erase 1).erase 0) ?_
   refine WA.takeOK 3 #[true, true, true, true, false, true, false] (by kernel_rfl) (by kernel_rfl) (by kernel_rfl) (by kernel_rfl) (fun w_ S_ => OK.index 14 107 3 (some ⟨bd0, 0, none⟩) ⟨bd0, 0, none⟩ 23 (i.gOp).toNat i.gOp ⟨bd0, ((i.gOp).toNat) * 3, none⟩ (by kernel_rfl) (by kernel_rfl) rfl (by omega) (by first | omega | (simp; omega)) (by rw [add_block, Nat.zero_add])) rfl ?_
   refine WA.weaken (env' := [(1, pv b1), (3, pv bd5), (14, .pointer (some ⟨bd0, ((i.gOp).toNat) * 3, none⟩))]) (by kernel_rfl) ?_
   exact W3 bd5 bd0 w25 S29
  have W7 : ∀ (w26 : World), Sep w [box b1 (insC i) 48] w26 → WA Tryz.prog 49 53 R K49_0 (fun w_ => Sep w [box b1 (insC i) 48] w_) 5 #[false, true, true, false, false, false, false] [(1, pv b1), (13, iv i.gOp)] w26 := by
   intro w26 S30
   refine WA.all [0, 5] (by kernel_rfl) rfl ⟨?_, ?_, trivial⟩
   ·skip
    refine WO.set #[true, true, true, false, false, false, false] (by kernel_rfl) ?_
    refine WO.callF 11 52 #[] hb52 (by kernel_rfl) (rows_any _) ?_
    rintro _ w27 ⟨bd0, rfl, T2⟩
    have S31 : Sep w [box bd0 (rowsL.flatMap rwoE) 109, box b1 (insC i) 48] w27 := S30.trans T2
    clear T2 S30
    refine WB.mk (S31.erase 0) ?_
    refine WA.takeOK 3 #[true, true, true, true, false, false, false] (by kernel_rfl) (by kernel_rfl) (by kernel_rfl) (by kernel_rfl) (fun w_ S_ => OK.index 14 107 3 (some ⟨bd0, 0, none⟩) ⟨bd0, 0, none⟩ 23 (i.gOp).toNat i.gOp ⟨bd0, ((i.gOp).toNat) * 3, none⟩ (by kernel_rfl) (by kernel_rfl) rfl (by omega) (by first | omega | (simp; omega)) (by rw [add_block, Nat.zero_add])) rfl ?_
    refine WA.weaken (env' := [(1, pv b1), (14, .pointer (some ⟨bd0, ((i.gOp).toNat) * 3, none⟩))]) (by kernel_rfl) ?_
    exact W5 bd0 w27 S31
   refine WO.set #[false, true, true, false, false, true, false] (by kernel_rfl) ?_
   refine WO.new S30 3 kvW17_1 109 (by kernel_rfl) ?_
   intro bd5 w28 S32
   refine WB.mk (S32.erase 0) ?_
   refine WA.weaken (env' := [(1, pv b1), (3, pv bd5), (13, iv i.gOp)]) (by kernel_rfl) ?_
   exact W6 bd5 w28 S32
  refine J.drawAny (fun w_ => Sep w [box b1 (insC i) 48] w_) S2 7 #[false, false, false, false, false, false, false] Tryz.mixed (by kernel_rfl) (by kernel_rfl) (by kernel_rfl) ?_
  intro w29 S33
  refine WB.mk S33 ?_
  refine WA.take 1 12 (pv b1) #[false, true, false, false, false, false, false] (by kernel_rfl) (by kernel_rfl) (by kernel_rfl) (fun _ _ => by kernel_rfl) (by kernel_rfl) ?_
  refine WA.takeOK 2 #[false, true, true, false, false, false, false] (by kernel_rfl) (by kernel_rfl) (by kernel_rfl) (by kernel_rfl) (fun w_ S_ => OK.ldBox S_ 0 13 3 0 (iv i.gOp) (by kernel_rfl) rfl (by kernel_rfl)) rfl ?_
  refine WA.weaken (env' := [(1, pv b1), (13, iv i.gOp)]) (by kernel_rfl) ?_
  exact W7 w29 S33
 have fb11 := of_decide_eq_false fk1
 refine J.e 5 [.bool false] Tryz.func49 (hR _ _ ?_)
 exact ⟨congrArg Value.bool (decide_eq_false (show ¬ (formP i.gOp i.gA i.gB i.gC i.gK) by omega)).symm, S2.nil⟩

end
end Go.Proofs.YtaoolgcddapegaaGreatDoor

