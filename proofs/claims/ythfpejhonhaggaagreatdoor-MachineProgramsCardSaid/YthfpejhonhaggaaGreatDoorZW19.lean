/- Walks of functions of this seat, printed by a program over the engine. Conditions: as each theorem says. -/
import Derived.Test.YthfpejhonhaggaaGreatDoorZW18
namespace Go.Proofs.YthfpejhonhaggaaGreatDoor
open Go.Eng Go.RowKit
set_option linter.unusedSimpArgs false
set_option linter.unusedVariables false
abbrev kvW19_1 : List Value := [.string ByteArray.empty, .string ByteArray.empty, iv 0]
theorem hb16 : HasBody Tryz.prog 16 := fun _ _ => by kernel_rfl
noncomputable def K16_0 : List Item := adv 2 [] (bodyOf Tryz.f16)
noncomputable def K16_1 : List Item := adv 5 [] (popK K16_0)
noncomputable def K16_2 : List Item := adv 2 [] (popK (popK K16_1))
noncomputable def K16_3 : List Item := adv 3 [false] K16_2
noncomputable def K16_4 : List Item := adv 3 [] (rRest K16_3)
noncomputable def K16_5 : List Item := adv 6 [] (popK K16_4)
noncomputable def K16_6 : List Item := adv 5 [] (popK (popK K16_5))
noncomputable def K16_7 : List Item := adv 5 [] K16_6
noncomputable def K16_8 : List Item := adv 6 [true] K16_7
noncomputable def K16_9 : List Item := adv 5 [] (popK (popK K16_8))
noncomputable def K16_10 : List Item := adv 8 [] (popK K16_9)
noncomputable def K16_11 : List Item := adv 4 [false] K16_10
noncomputable def K16_12 : List Item := adv 1 [] (popK K16_11)
noncomputable def K16_13 : List Item := adv 5 [] (popK (popK (popK K16_12)))
noncomputable def K16_14 : List Item := adv 3 [true] K16_10
noncomputable def K16_15 : List Item := adv 4 [] (popK K16_14)
noncomputable def K16_16 : List Item := adv 1 [] (popK K16_15)
noncomputable def K16_17 : List Item := adv 5 [] (popK (popK (popK K16_16)))
noncomputable def K16_18 : List Item := adv 7 [false] K16_7
noncomputable def K16_19 : List Item := adv 5 [true] K16_2
set_option maxRecDepth 20000 in
set_option maxHeartbeats 20000000 in
theorem mtext_any (i : Ins) (w : World) (hi : insQ w i) (hW : TabW w) : Ret Tryz.prog 16 #[.agg (insA i)] w (fun v w' => v = .string (textI i) ∧ Sep w [] w') := by
 have S0 := Sep.refl w
 refine Ret.named fun R hR => ?_
 refine Ret.of_J (N := 39) [(0, .agg (insA i))] Tryz.func16 rfl rfl (Nat.le_of_ble_eq_true (by kernel_rfl)) (by kernel_rfl) ?_
 obtain ⟨q1, q2, q3, q4, q5, _⟩ := id hi
 have hrl_ := rows_len
 refine J.run 2 K16_0 [(0, .agg (insA i))] w (by kernel_rfl) ?_
 refine J.new S0 1 (insC i) 44 (by kernel_rfl) ?_
 intro b1 w1 S1
 refine J.run 5 K16_1 [(1, pv b1)] w1 (by kernel_rfl) ?_
 refine J.ok (OK.ldBox S1 0 7 44 0 (.agg (insA i)) (by kernel_rfl) rfl (by kernel_rfl)) ?_
 refine J.callF 8 44 #[.agg (insA i)] hb44 (by kernel_rfl) (formed_any i _ (insQ_sep hi S1)) ?_
 rintro _ w2 ⟨rfl, T1⟩
 have S2 : Sep w [box b1 (insC i) 44] w2 := S1.trans T1
 clear T1 S1
 refine J.run 2 K16_2 [(9, .bool (!(formB i))), (1, pv b1)] w2 (by kernel_rfl) ?_
 rcases Bool.eq_false_or_eq_true (formB i) with fk1 | fk1
 ·skip
  refine J.head (.bool false) (congrArg Value.bool (by rw [fk1]; rfl)) ?_
  have hfp := formB_iff.1 fk1
  have hrs := rows_size (op := i.gOp) (by omega)
  refine J.run 3 K16_3 [(1, pv b1)] w2 (by kernel_rfl) ?_
  have W1 : ∀ (bd5 : Nat) (bd0 : Nat) (w3 : World), Sep w [box bd0 (rowsL.flatMap rwoE) 74, box bd5 (rwoC (rowsL.getD ((i.gOp).toNat) rwo0)) 74, box b1 (insC i) 44] w3 → WA Tryz.prog 16 39 R K16_3 (fun w_ => Sep w [box b1 (insC i) 44] w_) 0 #[true, true, true, true, true, true, true] [(1, pv b1), (3, pv bd5)] w3 := by
   intro bd5 bd0 w3 S3
   refine WA.done (by kernel_rfl) ?_
   refine J.run 0 (rRest K16_3) [(1, pv b1), (3, pv bd5)] w3 (by kernel_rfl) ?_
   refine J.run 3 K16_4 [(15, pv bd5), (1, pv b1), (3, pv bd5)] w3 (by kernel_rfl) ?_
   refine J.ok (OK.ldBox S3 1 16 9 0 (.string ((rowsL.getD ((i.gOp).toNat) rwo0).gname)) (by kernel_rfl) rfl (by kernel_rfl)) ?_
   refine J.run 6 K16_5 [(17, .pointer (some ⟨bd5, 1, none⟩)), (4, .string ((rowsL.getD ((i.gOp).toNat) rwo0).gname)), (1, pv b1)] w3 (by kernel_rfl) ?_
   refine J.ok (OK.ldBox S3 1 18 9 1 (.string ((rowsL.getD ((i.gOp).toNat) rwo0).gfields)) (by kernel_rfl) rfl (by kernel_rfl)) ?_
   refine J.strBytes S3 19 9 40 5 ((rowsL.getD ((i.gOp).toNat) rwo0).gfields) (by kernel_rfl) (by kernel_rfl) ?_
   intro b2 cq1 w4 S4
   refine J.run 5 K16_6 [(21, iv 0), (20, iv (((rowsL.getD ((i.gOp).toNat) rwo0).gfields).size : Int)), (19, .slice (some ⟨b2, 0, none⟩) (((rowsL.getD ((i.gOp).toNat) rwo0).gfields).size) cq1), (4, .string ((rowsL.getD ((i.gOp).toNat) rwo0).gname)), (1, pv b1)] w4 (by kernel_rfl) ?_
   have L16_1 : ∀ (mm_ : Nat) (t : ByteArray) (k : Int) (w5 : World), (0 ≤ k) → (k ≤ ((rowsL.getD i.gOp.toNat rwo0).gfields.size : Int)) → (((t).size : Int) ≤ 7 + 22 * k) → (ls t = ls (rowsL.getD i.gOp.toNat rwo0).gname ++ ((ls (rowsL.getD i.gOp.toNat rwo0).gfields).take (k).toNat).flatMap (partL i)) → Sep w [rows8 b2 ((rowsL.getD ((i.gOp).toNat) rwo0).gfields), box bd0 (rowsL.flatMap rwoE) 74, box bd5 (rwoC (rowsL.getD ((i.gOp).toNat) rwo0)) 74, box b1 (insC i) 44] w5 → (((rowsL.getD i.gOp.toNat rwo0).gfields.size : Int) - k).toNat = mm_ → J Tryz.prog 16 39 R K16_6 [(21, iv k), (20, iv (((rowsL.getD ((i.gOp).toNat) rwo0).gfields).size : Int)), (19, .slice (some ⟨b2, 0, none⟩) (((rowsL.getD ((i.gOp).toNat) rwo0).gfields).size) cq1), (4, .string t), (1, pv b1)] w5 := by
    intro mm1
    induction mm1 using Nat.strongRecOn with
    | _ mm1 ih1 =>
    intro t k w5 h0 h1 hz ht S5 hm1
    refine J.run 5 K16_7 [(22, .bool (decide (k < (((rowsL.getD ((i.gOp).toNat) rwo0).gfields).size : Int)))), (21, iv k), (20, iv (((rowsL.getD ((i.gOp).toNat) rwo0).gfields).size : Int)), (19, .slice (some ⟨b2, 0, none⟩) (((rowsL.getD ((i.gOp).toNat) rwo0).gfields).size) cq1), (4, .string t), (1, pv b1)] w5 (by kernel_rfl) ?_
    by_cases fk2 : k < (((rowsL.getD ((i.gOp).toNat) rwo0).gfields).size : Int)
    ·skip
     refine J.head (.bool true) (congrArg Value.bool (decide_eq_true fk2)) ?_
     refine J.run 6 K16_8 [(21, iv k), (20, iv (((rowsL.getD ((i.gOp).toNat) rwo0).gfields).size : Int)), (19, .slice (some ⟨b2, 0, none⟩) (((rowsL.getD ((i.gOp).toNat) rwo0).gfields).size) cq1), (4, .string t), (1, pv b1)] w5 (by kernel_rfl) ?_
     obtain ⟨p1, hp1, hc1⟩ := rows8_at (S5.nth 0 rfl) (k).toNat (by first | omega | (simp; omega))
     have := byteAt_bounds ((rowsL.getD ((i.gOp).toNat) rwo0).gfields) (k).toNat
     refine J.ok (OK.index 23 40 1 (some ⟨b2, 0, none⟩) p1 (((rowsL.getD ((i.gOp).toNat) rwo0).gfields).size) (k).toNat k (p1.add (k).toNat) (by kernel_rfl) (by kernel_rfl) hp1 (by omega) (by first | omega | (simp; omega)) (by rw [Nat.mul_one])) ?_
     refine J.ok (OK.ldCell 24 5 (p1.add (k).toNat) (.int .u8 (byteAt ((rowsL.getD ((i.gOp).toNat) rwo0).gfields) (k).toNat)) (by kernel_rfl) (by kernel_rfl) hc1) ?_
     refine J.run 5 K16_9 [(25, .string t), (6, .int .u8 (byteAt ((rowsL.getD ((i.gOp).toNat) rwo0).gfields) (k).toNat)), (21, iv k), (20, iv (((rowsL.getD ((i.gOp).toNat) rwo0).gfields).size : Int)), (19, .slice (some ⟨b2, 0, none⟩) (((rowsL.getD ((i.gOp).toNat) rwo0).gfields).size) cq1), (1, pv b1)] w5 (by kernel_rfl) ?_
     refine J.ok (OK.cat 26 t (⟨#[32]⟩ : ByteArray) (t ++ (⟨#[32]⟩ : ByteArray)) (by kernel_rfl) (by first | (simp only [ByteArray.size_append, lit_size, List.size_toArray, List.length_cons, List.length_nil]; omega)) (rfl)) ?_
     refine J.run 8 K16_10 [(28, .bool ((byteAt ((rowsL.getD ((i.gOp).toNat) rwo0).gfields) (k).toNat) != 75)), (4, .string (t ++ (⟨#[32]⟩ : ByteArray))), (6, .int .u8 (byteAt ((rowsL.getD ((i.gOp).toNat) rwo0).gfields) (k).toNat)), (21, iv k), (20, iv (((rowsL.getD ((i.gOp).toNat) rwo0).gfields).size : Int)), (19, .slice (some ⟨b2, 0, none⟩) (((rowsL.getD ((i.gOp).toNat) rwo0).gfields).size) cq1), (1, pv b1)] w5 (by kernel_rfl) ?_
     by_cases fk3 : (byteAt ((rowsL.getD ((i.gOp).toNat) rwo0).gfields) (k).toNat) = 75
     ·skip
      refine J.head (.bool false) (congrArg Value.bool (bne_eq_false_iff_eq.2 fk3)) ?_
      refine J.run 4 K16_11 [(31, .string (t ++ (⟨#[32]⟩ : ByteArray))), (6, .int .u8 (byteAt ((rowsL.getD ((i.gOp).toNat) rwo0).gfields) (k).toNat)), (21, iv k), (20, iv (((rowsL.getD ((i.gOp).toNat) rwo0).gfields).size : Int)), (19, .slice (some ⟨b2, 0, none⟩) (((rowsL.getD ((i.gOp).toNat) rwo0).gfields).size) cq1), (1, pv b1)] w5 (by kernel_rfl) ?_
      refine J.ok (OK.ldBox S5 3 32 44 0 (.agg (insA i)) (by kernel_rfl) rfl (by kernel_rfl)) ?_
      refine J.run 1 K16_12 [(33, .int .u8 (byteAt ((rowsL.getD ((i.gOp).toNat) rwo0).gfields) (k).toNat)), (32, .agg (insA i)), (31, .string (t ++ (⟨#[32]⟩ : ByteArray))), (21, iv k), (20, iv (((rowsL.getD ((i.gOp).toNat) rwo0).gfields).size : Int)), (19, .slice (some ⟨b2, 0, none⟩) (((rowsL.getD ((i.gOp).toNat) rwo0).gfields).size) cq1), (1, pv b1)] w5 (by kernel_rfl) ?_
      refine J.callF 34 51 #[.agg (insA i), .int .u8 (byteAt ((rowsL.getD ((i.gOp).toNat) rwo0).gfields) (k).toNat)] hb51 (by kernel_rfl) (field_any i (byteAt ((rowsL.getD ((i.gOp).toNat) rwo0).gfields) (k).toNat) _) ?_
      rintro _ w6 ⟨rfl, T2⟩
      have S6 : Sep w [rows8 b2 ((rowsL.getD ((i.gOp).toNat) rwo0).gfields), box bd0 (rowsL.flatMap rwoE) 74, box bd5 (rwoC (rowsL.getD ((i.gOp).toNat) rwo0)) 74, box b1 (insC i) 44] w6 := S5.trans T2
      clear T2 S5
      have hfb := fld_bd (i := i) ⟨by omega, by omega, by omega, by omega⟩ (byteAt ((rowsL.getD ((i.gOp).toNat) rwo0).gfields) (k).toNat)
      refine J.callF 35 50 #[iv (fldF i (byteAt ((rowsL.getD ((i.gOp).toNat) rwo0).gfields) (k).toNat))] hb50 (by kernel_rfl) (itoa_any (fldF i (byteAt ((rowsL.getD ((i.gOp).toNat) rwo0).gfields) (k).toNat)) _ (by omega) (tabW_sep hW S6)) ?_
      rintro _ w7 ⟨rfl, T3⟩
      have S7 : Sep w [rows8 b2 ((rowsL.getD ((i.gOp).toNat) rwo0).gfields), box bd0 (rowsL.flatMap rwoE) 74, box bd5 (rwoC (rowsL.getD ((i.gOp).toNat) rwo0)) 74, box b1 (insC i) 44] w7 := S6.trans T3
      clear T3 S6
      have := itoaB_size (n := (fldF i (byteAt ((rowsL.getD ((i.gOp).toNat) rwo0).gfields) (k).toNat))) (by omega)
      refine J.ok (OK.cat 36 (t ++ (⟨#[32]⟩ : ByteArray)) (itoaB (fldF i (byteAt ((rowsL.getD ((i.gOp).toNat) rwo0).gfields) (k).toNat))) ((t ++ (⟨#[32]⟩ : ByteArray)) ++ (itoaB (fldF i (byteAt ((rowsL.getD ((i.gOp).toNat) rwo0).gfields) (k).toNat)))) (by kernel_rfl) (by first | (simp only [ByteArray.size_append, lit_size, List.size_toArray, List.length_cons, List.length_nil]; omega)) (rfl)) ?_
      refine J.run 5 K16_13 [(37, iv (IntKind.wrap .i64 (k + 1))), (4, .string ((t ++ (⟨#[32]⟩ : ByteArray)) ++ (itoaB (fldF i (byteAt ((rowsL.getD ((i.gOp).toNat) rwo0).gfields) (k).toNat))))), (20, iv (((rowsL.getD ((i.gOp).toNat) rwo0).gfields).size : Int)), (19, .slice (some ⟨b2, 0, none⟩) (((rowsL.getD ((i.gOp).toNat) rwo0).gfields).size) cq1), (1, pv b1)] w7 (by kernel_rfl) ?_
      refine J.head (iv (k + 1)) (congrArg (Value.int .i64) (IntWalk.i64_in _ (by omega))) ?_
      refine J.run 3 K16_6 [(21, iv (k + 1)), (4, .string ((t ++ (⟨#[32]⟩ : ByteArray)) ++ (itoaB (fldF i (byteAt ((rowsL.getD ((i.gOp).toNat) rwo0).gfields) (k).toNat))))), (20, iv (((rowsL.getD ((i.gOp).toNat) rwo0).gfields).size : Int)), (19, .slice (some ⟨b2, 0, none⟩) (((rowsL.getD ((i.gOp).toNat) rwo0).gfields).size) cq1), (1, pv b1)] w7 (by kernel_rfl) ?_
      refine J.run 0 K16_6 [(21, iv (k + 1)), (20, iv (((rowsL.getD ((i.gOp).toNat) rwo0).gfields).size : Int)), (19, .slice (some ⟨b2, 0, none⟩) (((rowsL.getD ((i.gOp).toNat) rwo0).gfields).size) cq1), (4, .string ((t ++ (⟨#[32]⟩ : ByteArray)) ++ (itoaB (fldF i (byteAt ((rowsL.getD ((i.gOp).toNat) rwo0).gfields) (k).toNat))))), (1, pv b1)] w7 (by kernel_rfl) ?_
      exact ih1 _ (show (((rowsL.getD i.gOp.toNat rwo0).gfields.size : Int) - (k + 1)).toNat < mm1 from by omega) ((t ++ (⟨#[32]⟩ : ByteArray)) ++ (itoaB (fldF i (byteAt ((rowsL.getD ((i.gOp).toNat) rwo0).gfields) (k).toNat)))) (k + 1) w7 (by omega) (by omega) (by simp only [ByteArray.size_append, lit_size, List.size_toArray, List.length_cons, List.length_nil]; omega) (text_step h0 (by omega) ht (part_k (by omega))) S7 rfl
     ·skip
      refine J.head (.bool true) (congrArg Value.bool (bne_iff_ne.2 fk3)) ?_
      refine J.run 3 K16_14 [(29, .string (t ++ (⟨#[32]⟩ : ByteArray))), (6, .int .u8 (byteAt ((rowsL.getD ((i.gOp).toNat) rwo0).gfields) (k).toNat)), (21, iv k), (20, iv (((rowsL.getD ((i.gOp).toNat) rwo0).gfields).size : Int)), (19, .slice (some ⟨b2, 0, none⟩) (((rowsL.getD ((i.gOp).toNat) rwo0).gfields).size) cq1), (1, pv b1)] w5 (by kernel_rfl) ?_
      refine J.ok (OK.cat 30 (t ++ (⟨#[32]⟩ : ByteArray)) (⟨#[114]⟩ : ByteArray) ((t ++ (⟨#[32]⟩ : ByteArray)) ++ (⟨#[114]⟩ : ByteArray)) (by kernel_rfl) (by first | (simp only [ByteArray.size_append, lit_size, List.size_toArray, List.length_cons, List.length_nil]; omega)) (rfl)) ?_
      refine J.run 4 K16_15 [(31, .string ((t ++ (⟨#[32]⟩ : ByteArray)) ++ (⟨#[114]⟩ : ByteArray))), (6, .int .u8 (byteAt ((rowsL.getD ((i.gOp).toNat) rwo0).gfields) (k).toNat)), (21, iv k), (20, iv (((rowsL.getD ((i.gOp).toNat) rwo0).gfields).size : Int)), (19, .slice (some ⟨b2, 0, none⟩) (((rowsL.getD ((i.gOp).toNat) rwo0).gfields).size) cq1), (1, pv b1)] w5 (by kernel_rfl) ?_
      refine J.ok (OK.ldBox S5 3 32 44 0 (.agg (insA i)) (by kernel_rfl) rfl (by kernel_rfl)) ?_
      refine J.run 1 K16_16 [(33, .int .u8 (byteAt ((rowsL.getD ((i.gOp).toNat) rwo0).gfields) (k).toNat)), (32, .agg (insA i)), (31, .string ((t ++ (⟨#[32]⟩ : ByteArray)) ++ (⟨#[114]⟩ : ByteArray))), (21, iv k), (20, iv (((rowsL.getD ((i.gOp).toNat) rwo0).gfields).size : Int)), (19, .slice (some ⟨b2, 0, none⟩) (((rowsL.getD ((i.gOp).toNat) rwo0).gfields).size) cq1), (1, pv b1)] w5 (by kernel_rfl) ?_
      refine J.callF 34 51 #[.agg (insA i), .int .u8 (byteAt ((rowsL.getD ((i.gOp).toNat) rwo0).gfields) (k).toNat)] hb51 (by kernel_rfl) (field_any i (byteAt ((rowsL.getD ((i.gOp).toNat) rwo0).gfields) (k).toNat) _) ?_
      rintro _ w8 ⟨rfl, T4⟩
      have S8 : Sep w [rows8 b2 ((rowsL.getD ((i.gOp).toNat) rwo0).gfields), box bd0 (rowsL.flatMap rwoE) 74, box bd5 (rwoC (rowsL.getD ((i.gOp).toNat) rwo0)) 74, box b1 (insC i) 44] w8 := S5.trans T4
      clear T4 S5
      have hfb := fld_bd (i := i) ⟨by omega, by omega, by omega, by omega⟩ (byteAt ((rowsL.getD ((i.gOp).toNat) rwo0).gfields) (k).toNat)
      refine J.callF 35 50 #[iv (fldF i (byteAt ((rowsL.getD ((i.gOp).toNat) rwo0).gfields) (k).toNat))] hb50 (by kernel_rfl) (itoa_any (fldF i (byteAt ((rowsL.getD ((i.gOp).toNat) rwo0).gfields) (k).toNat)) _ (by omega) (tabW_sep hW S8)) ?_
      rintro _ w9 ⟨rfl, T5⟩
      have S9 : Sep w [rows8 b2 ((rowsL.getD ((i.gOp).toNat) rwo0).gfields), box bd0 (rowsL.flatMap rwoE) 74, box bd5 (rwoC (rowsL.getD ((i.gOp).toNat) rwo0)) 74, box b1 (insC i) 44] w9 := S8.trans T5
      clear T5 S8
      have := itoaB_size (n := (fldF i (byteAt ((rowsL.getD ((i.gOp).toNat) rwo0).gfields) (k).toNat))) (by omega)
      refine J.ok (OK.cat 36 ((t ++ (⟨#[32]⟩ : ByteArray)) ++ (⟨#[114]⟩ : ByteArray)) (itoaB (fldF i (byteAt ((rowsL.getD ((i.gOp).toNat) rwo0).gfields) (k).toNat))) (((t ++ (⟨#[32]⟩ : ByteArray)) ++ (⟨#[114]⟩ : ByteArray)) ++ (itoaB (fldF i (byteAt ((rowsL.getD ((i.gOp).toNat) rwo0).gfields) (k).toNat)))) (by kernel_rfl) (by first | (simp only [ByteArray.size_append, lit_size, List.size_toArray, List.length_cons, List.length_nil]; omega)) (rfl)) ?_
      refine J.run 5 K16_17 [(37, iv (IntKind.wrap .i64 (k + 1))), (4, .string (((t ++ (⟨#[32]⟩ : ByteArray)) ++ (⟨#[114]⟩ : ByteArray)) ++ (itoaB (fldF i (byteAt ((rowsL.getD ((i.gOp).toNat) rwo0).gfields) (k).toNat))))), (20, iv (((rowsL.getD ((i.gOp).toNat) rwo0).gfields).size : Int)), (19, .slice (some ⟨b2, 0, none⟩) (((rowsL.getD ((i.gOp).toNat) rwo0).gfields).size) cq1), (1, pv b1)] w9 (by kernel_rfl) ?_
      refine J.head (iv (k + 1)) (congrArg (Value.int .i64) (IntWalk.i64_in _ (by omega))) ?_
      refine J.run 3 K16_6 [(21, iv (k + 1)), (4, .string (((t ++ (⟨#[32]⟩ : ByteArray)) ++ (⟨#[114]⟩ : ByteArray)) ++ (itoaB (fldF i (byteAt ((rowsL.getD ((i.gOp).toNat) rwo0).gfields) (k).toNat))))), (20, iv (((rowsL.getD ((i.gOp).toNat) rwo0).gfields).size : Int)), (19, .slice (some ⟨b2, 0, none⟩) (((rowsL.getD ((i.gOp).toNat) rwo0).gfields).size) cq1), (1, pv b1)] w9 (by kernel_rfl) ?_
      refine J.run 0 K16_6 [(21, iv (k + 1)), (20, iv (((rowsL.getD ((i.gOp).toNat) rwo0).gfields).size : Int)), (19, .slice (some ⟨b2, 0, none⟩) (((rowsL.getD ((i.gOp).toNat) rwo0).gfields).size) cq1), (4, .string (((t ++ (⟨#[32]⟩ : ByteArray)) ++ (⟨#[114]⟩ : ByteArray)) ++ (itoaB (fldF i (byteAt ((rowsL.getD ((i.gOp).toNat) rwo0).gfields) (k).toNat))))), (1, pv b1)] w9 (by kernel_rfl) ?_
      exact ih1 _ (show (((rowsL.getD i.gOp.toNat rwo0).gfields.size : Int) - (k + 1)).toNat < mm1 from by omega) (((t ++ (⟨#[32]⟩ : ByteArray)) ++ (⟨#[114]⟩ : ByteArray)) ++ (itoaB (fldF i (byteAt ((rowsL.getD ((i.gOp).toNat) rwo0).gfields) (k).toNat)))) (k + 1) w9 (by omega) (by omega) (by simp only [ByteArray.size_append, lit_size, List.size_toArray, List.length_cons, List.length_nil]; omega) (text_step h0 (by omega) ht (part_r (by omega))) S9 rfl
    ·skip
     refine J.head (.bool false) (congrArg Value.bool (decide_eq_false fk2)) ?_
     refine J.run 7 K16_18 [(2, .string t)] w5 (by kernel_rfl) ?_
     refine J.ret Tryz.f16 [.string t] Tryz.func16 ⟨by kernel_rfl, trivial⟩ ?_
     refine hR _ _ ?_
     rw [show k.toNat = (rowsL.getD i.gOp.toNat rwo0).gfields.size by omega] at ht
     exact ⟨congrArg Value.string (text_done fk1 ht), S5.nil⟩
   exact L16_1 _ ((rowsL.getD ((i.gOp).toNat) rwo0).gname) 0 w4 (by omega) (by omega) (by omega) (by simp) S4 rfl
  have W2 : ∀ (bd5 : Nat) (bd0 : Nat) (w10 : World), Sep w [box bd0 (rowsL.flatMap rwoE) 74, box bd5 kvW19_1 74, box b1 (insC i) 44] w10 → WA Tryz.prog 16 39 R K16_3 (fun w_ => Sep w [box b1 (insC i) 44] w_) 1 #[true, true, true, true, true, true, false] [(1, pv b1), (3, pv bd5), (14, .agg (rwoA (rowsL.getD ((i.gOp).toNat) rwo0)))] w10 := by
   intro bd5 bd0 w10 S10
   refine WA.all [6] (by kernel_rfl) rfl ⟨?_, trivial⟩
   ·skip
    refine WO.set #[true, true, true, true, true, true, true] (by kernel_rfl) ?_
    refine WO.stBox S10 1 74 0 (.agg (rwoA (rowsL.getD ((i.gOp).toNat) rwo0))) (rwoC (rowsL.getD ((i.gOp).toNat) rwo0)) [box bd0 (rowsL.flatMap rwoE) 74, box bd5 (rwoC (rowsL.getD ((i.gOp).toNat) rwo0)) 74, box b1 (insC i) 44] (by kernel_rfl) rfl (by kernel_rfl) (by kernel_rfl) rfl ?_
    intro w11 S11
    refine WB.mk ((S11.erase 1).erase 0) ?_
    refine WA.weaken (env' := [(1, pv b1), (3, pv bd5)]) (by kernel_rfl) ?_
    exact W1 bd5 bd0 w11 S11
  have W3 : ∀ (bd5 : Nat) (bd0 : Nat) (w12 : World), Sep w [box bd0 (rowsL.flatMap rwoE) 74, box bd5 kvW19_1 74, box b1 (insC i) 44] w12 → WA Tryz.prog 16 39 R K16_3 (fun w_ => Sep w [box b1 (insC i) 44] w_) 2 #[true, true, true, true, false, true, false] [(1, pv b1), (3, pv bd5), (13, .pointer (some ⟨bd0, ((i.gOp).toNat) * 3, none⟩))] w12 := by
   intro bd5 bd0 w12 S12
   refine WA.all [4] (by kernel_rfl) rfl ⟨?_, trivial⟩
   ·skip
    refine WO.set #[true, true, true, true, true, true, false] (by kernel_rfl) ?_
    refine WO.ok (OK.ldCells 14 74 ⟨bd0, ((i.gOp).toNat) * 3, none⟩ (rwoC (rowsL.getD ((i.gOp).toNat) rwo0)) (by kernel_rfl) (by kernel_rfl) (by kernel_rfl) (box_rec_at (s := 3) (S12.nth 0 rfl) (fun _ => rfl) (by decide) rwo0 ((i.gOp).toNat) (by first | omega | (simp; omega)))) ?_
    refine WB.mk ((S12.erase 1).erase 0) ?_
    refine WA.weaken (env' := [(1, pv b1), (3, pv bd5), (14, .agg (rwoA (rowsL.getD ((i.gOp).toNat) rwo0)))]) (by kernel_rfl) ?_
    exact W2 bd5 bd0 w12 S12
  have W4 : ∀ (bd0 : Nat) (w13 : World), Sep w [box bd0 (rowsL.flatMap rwoE) 74, box b1 (insC i) 44] w13 → WA Tryz.prog 16 39 R K16_3 (fun w_ => Sep w [box b1 (insC i) 44] w_) 2 #[true, true, true, true, true, false, false] [(1, pv b1), (14, .agg (rwoA (rowsL.getD ((i.gOp).toNat) rwo0)))] w13 := by
   intro bd0 w13 S13
   refine WA.all [5] (by kernel_rfl) rfl ⟨?_, trivial⟩
   ·skip
    refine WO.set #[true, true, true, true, true, true, false] (by kernel_rfl) ?_
    refine WO.new S13 3 kvW19_1 74 (by kernel_rfl) ?_
    intro bd5 w14 S14
    refine WB.mk ((S14.erase 1).erase 0) ?_
    refine WA.weaken (env' := [(1, pv b1), (3, pv bd5), (14, .agg (rwoA (rowsL.getD ((i.gOp).toNat) rwo0)))]) (by kernel_rfl) ?_
    have S15 : Sep w [box bd5 kvW19_1 74, box bd0 (rowsL.flatMap rwoE) 74, box b1 (insC i) 44] w14 := S14.front 0 rfl
    have S16 : Sep w [box bd0 (rowsL.flatMap rwoE) 74, box bd5 kvW19_1 74, box b1 (insC i) 44] w14 := S15.front 1 rfl
    exact W2 bd5 bd0 w14 S16
  have W5 : ∀ (bd0 : Nat) (w15 : World), Sep w [box bd0 (rowsL.flatMap rwoE) 74, box b1 (insC i) 44] w15 → WA Tryz.prog 16 39 R K16_3 (fun w_ => Sep w [box b1 (insC i) 44] w_) 3 #[true, true, true, true, false, false, false] [(1, pv b1), (13, .pointer (some ⟨bd0, ((i.gOp).toNat) * 3, none⟩))] w15 := by
   intro bd0 w15 S17
   refine WA.all [4, 5] (by kernel_rfl) rfl ⟨?_, ?_, trivial⟩
   ·skip
    refine WO.set #[true, true, true, true, true, false, false] (by kernel_rfl) ?_
    refine WO.ok (OK.ldCells 14 74 ⟨bd0, ((i.gOp).toNat) * 3, none⟩ (rwoC (rowsL.getD ((i.gOp).toNat) rwo0)) (by kernel_rfl) (by kernel_rfl) (by kernel_rfl) (box_rec_at (s := 3) (S17.nth 0 rfl) (fun _ => rfl) (by decide) rwo0 ((i.gOp).toNat) (by first | omega | (simp; omega)))) ?_
    refine WB.mk (S17.erase 0) ?_
    refine WA.weaken (env' := [(1, pv b1), (14, .agg (rwoA (rowsL.getD ((i.gOp).toNat) rwo0)))]) (by kernel_rfl) ?_
    exact W4 bd0 w15 S17
   ·skip
    refine WO.set #[true, true, true, true, false, true, false] (by kernel_rfl) ?_
    refine WO.new S17 3 kvW19_1 74 (by kernel_rfl) ?_
    intro bd5 w16 S18
    refine WB.mk ((S18.erase 1).erase 0) ?_
    refine WA.weaken (env' := [(1, pv b1), (3, pv bd5), (13, .pointer (some ⟨bd0, ((i.gOp).toNat) * 3, none⟩))]) (by kernel_rfl) ?_
    have S19 : Sep w [box bd5 kvW19_1 74, box bd0 (rowsL.flatMap rwoE) 74, box b1 (insC i) 44] w16 := S18.front 0 rfl
    have S20 : Sep w [box bd0 (rowsL.flatMap rwoE) 74, box bd5 kvW19_1 74, box b1 (insC i) 44] w16 := S19.front 1 rfl
    exact W3 bd5 bd0 w16 S20
  have W6 : ∀ (bd5 : Nat) (w17 : World), Sep w [box bd5 kvW19_1 74, box b1 (insC i) 44] w17 → WA Tryz.prog 16 39 R K16_3 (fun w_ => Sep w [box b1 (insC i) 44] w_) 4 #[false, true, true, false, false, true, false] [(1, pv b1), (3, pv bd5), (12, iv i.gOp)] w17 := by
   intro bd5 w17 S21
   refine WA.all [0] (by kernel_rfl) rfl ⟨?_, trivial⟩
   ·skip
    refine WO.set #[true, true, true, false, false, true, false] (by kernel_rfl) ?_
    refine WO.callF 10 42 #[] hb42 (by kernel_rfl) (rows_any _) ?_
    rintro _ w18 ⟨bd0, rfl, T6⟩
    have S22 : Sep w [box bd0 (rowsL.flatMap rwoE) 74, box bd5 kvW19_1 74, box b1 (insC i) 44] w18 := S21.trans T6
    clear T6 S21
    refine WB.mk ((S22.erase 1).erase 0) ?_
    refine WA.takeOK 3 #[true, true, true, true, false, true, false] (by kernel_rfl) (by kernel_rfl) (by kernel_rfl) (by kernel_rfl) (fun w_ S_ => OK.index 13 75 3 (some ⟨bd0, 0, none⟩) ⟨bd0, 0, none⟩ 23 (i.gOp).toNat i.gOp ⟨bd0, ((i.gOp).toNat) * 3, none⟩ (by kernel_rfl) (by kernel_rfl) rfl (by omega) (by first | omega | (simp; omega)) (by rw [add_block, Nat.zero_add])) rfl ?_
    refine WA.weaken (env' := [(1, pv b1), (3, pv bd5), (13, .pointer (some ⟨bd0, ((i.gOp).toNat) * 3, none⟩))]) (by kernel_rfl) ?_
    exact W3 bd5 bd0 w18 S22
  have W7 : ∀ (w19 : World), Sep w [box b1 (insC i) 44] w19 → WA Tryz.prog 16 39 R K16_3 (fun w_ => Sep w [box b1 (insC i) 44] w_) 5 #[false, true, true, false, false, false, false] [(1, pv b1), (12, iv i.gOp)] w19 := by
   intro w19 S23
   refine WA.all [0, 5] (by kernel_rfl) rfl ⟨?_, ?_, trivial⟩
   ·skip
    refine WO.set #[true, true, true, false, false, false, false] (by kernel_rfl) ?_
    refine WO.callF 10 42 #[] hb42 (by kernel_rfl) (rows_any _) ?_
    rintro _ w20 ⟨bd0, rfl, T7⟩
    have S24 : Sep w [box bd0 (rowsL.flatMap rwoE) 74, box b1 (insC i) 44] w20 := S23.trans T7
    clear T7 S23
    refine WB.mk (S24.erase 0) ?_
    refine WA.takeOK 3 #[true, true, true, true, false, false, false] (by kernel_rfl) (by kernel_rfl) (by kernel_rfl) (by kernel_rfl) (fun w_ S_ => OK.index 13 75 3 (some ⟨bd0, 0, none⟩) ⟨bd0, 0, none⟩ 23 (i.gOp).toNat i.gOp ⟨bd0, ((i.gOp).toNat) * 3, none⟩ (by kernel_rfl) (by kernel_rfl) rfl (by omega) (by first | omega | (simp; omega)) (by rw [add_block, Nat.zero_add])) rfl ?_
    refine WA.weaken (env' := [(1, pv b1), (13, .pointer (some ⟨bd0, ((i.gOp).toNat) * 3, none⟩))]) (by kernel_rfl) ?_
    exact W5 bd0 w20 S24
   ·skip
    refine WO.set #[false, true, true, false, false, true, false] (by kernel_rfl) ?_
    refine WO.new S23 3 kvW19_1 74 (by kernel_rfl) ?_
    intro bd5 w21 S25
    refine WB.mk (S25.erase 0) ?_
    refine WA.weaken (env' := [(1, pv b1), (3, pv bd5), (12, iv i.gOp)]) (by kernel_rfl) ?_
    exact W6 bd5 w21 S25
  refine J.drawAny (fun w_ => Sep w [box b1 (insC i) 44] w_) S2 7 #[false, false, false, false, false, false, false] Tryz.mixed (by kernel_rfl) (by kernel_rfl) (by kernel_rfl) ?_
  intro w22 S26
  refine WB.mk S26 ?_
  refine WA.take 1 11 (pv b1) #[false, true, false, false, false, false, false] (by kernel_rfl) (by kernel_rfl) (by kernel_rfl) (fun _ _ => by kernel_rfl) (by kernel_rfl) ?_
  refine WA.takeOK 2 #[false, true, true, false, false, false, false] (by kernel_rfl) (by kernel_rfl) (by kernel_rfl) (by kernel_rfl) (fun w_ S_ => OK.ldBox S_ 0 12 3 0 (iv i.gOp) (by kernel_rfl) rfl (by kernel_rfl)) rfl ?_
  refine WA.weaken (env' := [(1, pv b1), (12, iv i.gOp)]) (by kernel_rfl) ?_
  exact W7 w22 S26
 ·skip
  refine J.head (.bool true) (congrArg Value.bool (by rw [fk1]; rfl)) ?_
  refine J.run 5 K16_19 [(2, .string ByteArray.empty)] w2 (by kernel_rfl) ?_
  refine J.ret Tryz.f16 [.string ByteArray.empty] Tryz.func16 ⟨by kernel_rfl, trivial⟩ ?_
  refine hR _ _ ?_
  exact ⟨congrArg Value.string (textI_no fk1).symm, S2.nil⟩

theorem atM_bd (l : List UInt8) : -9223372036854775808 ≤ (atM l).getD 0 ∧ (atM l).getD 0 ≤ 9223372036854775807 := by
  unfold atM
  split
  · rename_i n h
    have := Lib.atoiAll_bounds h
    simp only [Option.getD_some]; omega
  · simp only [Option.getD_none]; omega
theorem index_rows (W : ByteArray) : -1 ≤ indexF (fun r : Rwo => r.gname.toList == W.toList) rowsL ∧ indexF (fun r : Rwo => r.gname.toList == W.toList) rowsL < 23 ∧
    (indexF (fun r : Rwo => r.gname.toList == W.toList) rowsL < 1 → opW (ls W) = 0) ∧ (1 ≤ indexF (fun r : Rwo => r.gname.toList == W.toList) rowsL → opW (ls W) = indexF (fun r : Rwo => r.gname.toList == W.toList) rowsL) := by
  have hl := rows_len
  by_cases h : 0 ≤ indexF (fun r : Rwo => r.gname.toList == W.toList) rowsL
  · obtain ⟨h1, h2, _⟩ := indexF_at rwo0 h
    generalize indexF (fun r : Rwo => r.gname.toList == W.toList) rowsL = m at h h1 h2
    rw [beq_ls, beq_iff_eq] at h2
    refine ⟨by omega, by omega, fun h3 => ?_, fun h3 => ?_⟩
    · have e : m = 0 := by omega
      subst e
      rw [← h2]; decide +kernel
    · rw [← h2, (rows_at (op := m) (by omega)).1]; exact opW_name (by omega)
  · have ha : rowsL.any (fun r : Rwo => r.gname.toList == W.toList) = false := by
      rw [← indexF_nonneg]; exact decide_eq_false h
    refine ⟨?_, by omega, fun _ => ?_, fun h3 => absurd h3 (by omega)⟩
    · rcases indexF_bounds (fun r : Rwo => r.gname.toList == W.toList) rowsL with h1 | h1 <;> omega
    · refine opN_zero fun j hj h0 e => ?_
      rw [List.any_eq_false] at ha
      have hm : rowsL.getD j rwo0 ∈ rowsL := by rw [List.getD_eq_getElem?_getD, List.getElem?_eq_getElem (by omega)]; exact List.getElem_mem _
      apply ha _ hm
      rw [beq_ls, beq_iff_eq, ← e]
      have := (rows_at (op := (j : Int)) (by omega)).1
      rw [Int.toNat_natCast] at this; rw [this]
theorem goW_step {f : UInt8 → List UInt8 → Option Int} {cs : List UInt8} {ws : List (List UInt8)} {i : Ins} {k : Nat} (hk : k < cs.length) :
    goW f (cs.drop k) (ws.drop (k + 1)) i = match f (cs.getD k 0) (ws.getD (k + 1) []) with
      | none => none
      | some n => goW f (cs.drop (k + 1)) (ws.drop (k + 2)) (setI i ((cs.getD k 0).toNat : Int) n) := by
  rw [List.drop_eq_getElem_cons hk, goW, List.getD_eq_getElem?_getD, List.getElem?_eq_getElem hk, Option.getD_some]
  have e1 : (ws.drop (k + 1)).headD [] = ws.getD (k + 1) [] := by
    rw [List.headD_eq_head?_getD, List.head?_drop, List.getD_eq_getElem?_getD]
  have e2 : (ws.drop (k + 1)).tail = ws.drop (k + 2) := by rw [List.tail_drop]
  rw [e1, e2] <;> rfl
/-- the state of a reader: what the rest of the fields gives -/
def atW (f : UInt8 → List UInt8 → Option Int) (s : ByteArray) (op : Int) (k : Int) (i : Ins) : Prop :=
  readI f (ls s) = goW f ((ls (fieldsF op)).drop k.toNat) ((splitOn 32 (ls s)).drop (k.toNat + 1)) i
theorem atW_start {f : UInt8 → List UInt8 → Option Int} {s : ByteArray} {op : Int} {w0 : ByteArray} (h0 : (piecesB 32 s).getD 0 ByteArray.empty = w0) (h1 : opW (ls w0) = op) (h2 : 1 ≤ op) (h3 : ((piecesB 32 s).length : Int) = 1 + ((fieldsF op).size : Int)) : atW f s op 0 ⟨op, 0, 0, 0, 0⟩ := by
  have hp := pieces_len 32 s
  have hne := splitOn_ne 32 (ls s)
  have e0 : ls w0 = (splitOn 32 (ls s)).headD [] := by
    rw [← h0, piecesB_getD 32 s 0 (List.length_pos_iff.2 hne)]
    cases splitOn 32 (ls s) with
    | nil => rfl
    | cons a b => rfl
  rw [e0] at h1
  unfold atW
  rw [readI_yes (by omega) (by rw [h1]; omega), h1]; simp
theorem readI_not {f : UInt8 → List UInt8 → Option Int} {s : ByteArray} {w0 : ByteArray} (h0 : (piecesB 32 s).getD 0 ByteArray.empty = w0) (h : opW (ls w0) < 1 ∨ ((piecesB 32 s).length : Int) ≠ 1 + ((fieldsF (opW (ls w0))).size : Int)) : readI f (ls s) = none := by
  have hp := pieces_len 32 s
  have hne := splitOn_ne 32 (ls s)
  have e0 : ls w0 = (splitOn 32 (ls s)).headD [] := by
    rw [← h0, piecesB_getD 32 s 0 (List.length_pos_iff.2 hne)]
    cases splitOn 32 (ls s) with
    | nil => rfl
    | cons a b => rfl
  rw [e0] at h
  unfold readI; rw [if_pos (by rcases h with h | h; left; exact h; right; omega)]
theorem atW_none {f : UInt8 → List UInt8 → Option Int} {s w : ByteArray} {op k : Int} {i : Ins} (h : atW f s op k i) (h0 : 0 ≤ k) (hk : k < ((fieldsF op).size : Int)) (hw : w = (piecesB 32 s).getD (k + 1).toNat ByteArray.empty) (hp : ((piecesB 32 s).length : Int) = 1 + ((fieldsF op).size : Int))
    (hf : f ((ls (fieldsF op)).getD k.toNat 0) (ls w) = none) : readI f (ls s) = none := by
  have hl := ls_length (fieldsF op); have hpl := pieces_len 32 s
  rw [hw, piecesB_getD 32 s _ (by omega), show (k + 1).toNat = k.toNat + 1 by omega] at hf
  unfold atW at h
  rw [h, goW_step (by omega), hf]
theorem atW_next {f : UInt8 → List UInt8 → Option Int} {s w : ByteArray} {op k n : Int} {i : Ins} (h : atW f s op k i) (h0 : 0 ≤ k) (hk : k < ((fieldsF op).size : Int)) (hw : w = (piecesB 32 s).getD (k + 1).toNat ByteArray.empty) (hp : ((piecesB 32 s).length : Int) = 1 + ((fieldsF op).size : Int))
    (hf : f ((ls (fieldsF op)).getD k.toNat 0) (ls w) = some n) : atW f s op (k + 1) (setI i (byteAt (fieldsF op) k.toNat) n) := by
  have hl := ls_length (fieldsF op); have hpl := pieces_len 32 s
  rw [hw, piecesB_getD 32 s _ (by omega), show (k + 1).toNat = k.toNat + 1 by omega] at hf
  unfold atW at h ⊢
  rw [h, goW_step (by omega), hf, byteAt_ls, show (k + 1).toNat = k.toNat + 1 by omega]
theorem atW_end {f : UInt8 → List UInt8 → Option Int} {s : ByteArray} {op k : Int} {i : Ins} (h : atW f s op k i) (hk : k = ((fieldsF op).size : Int)) : readI f (ls s) = some i := by
  unfold atW at h
  rw [h, List.drop_eq_nil_of_le (by rw [ls_length]; omega)]; rfl
theorem set_val {i : Ins} {c n : Int} : (c = 65 → setI i c n = { i with gA := n }) ∧ (c = 66 → setI i c n = { i with gB := n }) ∧ (c = 67 → setI i c n = { i with gC := n }) ∧ (c ≠ 65 → c ≠ 66 → c ≠ 67 → setI i c n = { i with gK := n }) := by
  unfold setI
  refine ⟨fun h => by rw [if_pos h], fun h => by rw [if_neg (by omega), if_pos h], fun h => by rw [if_neg (by omega), if_neg (by omega), if_pos h], fun h1 h2 h3 => by rw [if_neg h1, if_neg h2, if_neg h3]⟩
theorem byte_dec {F : ByteArray} {k : Nat} : ((ls F).getD k 0 = 75) ↔ byteAt F k = 75 := (byte_eq (c := 75) (by decide)).symm
theorem trim_size (w p : ByteArray) : (⟨(Lib.trimPrefix (ls w) (ls p)).toArray⟩ : ByteArray).size ≤ w.size := by
  rw [← ls_length, ls_mk, ← ls_length w]
  unfold Lib.trimPrefix
  split
  · rw [List.length_drop]; omega
  · exact Nat.le_refl _
theorem mat_k {F w : ByteArray} {k : Nat} (h : byteAt F k = 75) : matW ((ls F).getD k 0) (ls w) = atM (ls w) := by unfold matW; rw [if_pos (byte_dec.2 h)]
theorem mat_r {F w t : ByteArray} {k : Nat} (h : byteAt F k ≠ 75) (ht : t = ⟨(Lib.trimPrefix (ls w) (ls (⟨#[114]⟩ : ByteArray))).toArray⟩) : matW ((ls F).getD k 0) (ls w) = atM (ls t) := by
  unfold matW; rw [if_neg (fun e => h (byte_dec.1 e)), ht, ls_mk, show ls (⟨#[114]⟩ : ByteArray) = [114] from rfl, trim_eq]
theorem at_some {l : List UInt8} (h : (atM l).isSome = true) : atM l = some ((atM l).getD 0) := by
  cases hh : atM l with
  | none => rw [hh] at h; cases h
  | some n => rfl
theorem at_none {l : List UInt8} (h : (atM l).isSome = false) : atM l = none := by
  cases hh : atM l with
  | none => rfl
  | some n => rw [hh] at h; cases h
/-! the words of a text, cut at blanks -/
end Go.Proofs.YthfpejhonhaggaaGreatDoor

