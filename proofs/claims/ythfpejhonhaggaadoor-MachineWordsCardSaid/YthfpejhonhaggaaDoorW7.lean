/- Walks of functions of this seat, printed by a program over the engine. Conditions: as each theorem says. -/
import Derived.Test.YthfpejhonhaggaaDoorW6
namespace Go.Proofs.YthfpejhonhaggaaDoor
open Go.Eng Go.RowKit
set_option linter.unusedSimpArgs false
set_option linter.unusedVariables false
theorem hb6 : HasBody Tryd.prog 6 := fun _ _ => by kernel_rfl
noncomputable def K6_0 : List Item := adv 2 [] (bodyOf Tryd.f6)
noncomputable def K6_1 : List Item := adv 5 [] (popK K6_0)
noncomputable def K6_2 : List Item := adv 2 [] (popK (popK K6_1))
noncomputable def K6_3 : List Item := adv 3 [false] K6_2
noncomputable def K6_4 : List Item := adv 3 [] (rRest K6_3)
noncomputable def K6_5 : List Item := adv 6 [] (popK K6_4)
noncomputable def K6_6 : List Item := adv 5 [] (popK (popK K6_5))
noncomputable def K6_7 : List Item := adv 5 [] K6_6
noncomputable def K6_8 : List Item := adv 6 [true] K6_7
noncomputable def K6_9 : List Item := adv 5 [] (popK (popK K6_8))
noncomputable def K6_10 : List Item := adv 8 [] (popK K6_9)
noncomputable def K6_11 : List Item := adv 4 [false] K6_10
noncomputable def K6_12 : List Item := adv 1 [] (popK K6_11)
noncomputable def K6_13 : List Item := adv 5 [] (popK (popK (popK K6_12)))
noncomputable def K6_14 : List Item := adv 3 [true] K6_10
noncomputable def K6_15 : List Item := adv 4 [] (popK K6_14)
noncomputable def K6_16 : List Item := adv 1 [] (popK K6_15)
noncomputable def K6_17 : List Item := adv 5 [] (popK (popK (popK K6_16)))
noncomputable def K6_18 : List Item := adv 7 [false] K6_7
noncomputable def K6_19 : List Item := adv 5 [true] K6_2
set_option maxRecDepth 20000 in
set_option maxHeartbeats 20000000 in
theorem mtext_any (i : Ins) (w : World) (hi : insQ w i) (hW : TabW w) : Ret Tryd.prog 6 #[.agg #[.int .i64 i.gOp, .int .i64 i.gA, .int .i64 i.gB, .int .i64 i.gC, .int .i64 i.gK]] w (fun v w' => v = .string (textI i) ∧ Sep w [] w') := by
 have S0 := Sep.refl w
 refine Ret.named fun R hR => ?_
 refine Ret.of_J (N := 39) [(0, .agg #[.int .i64 i.gOp, .int .i64 i.gA, .int .i64 i.gB, .int .i64 i.gC, .int .i64 i.gK])] Tryd.func6 rfl rfl (Nat.le_of_ble_eq_true (by kernel_rfl)) (by kernel_rfl) ?_
 obtain ⟨q1, q2, q3, q4, q5, _⟩ := id hi
 have hrl_ := rows_len
 refine J.run 2 K6_0 [(0, .agg #[.int .i64 i.gOp, .int .i64 i.gA, .int .i64 i.gB, .int .i64 i.gC, .int .i64 i.gK])] w (by kernel_rfl) ?_
 refine J.new S0 1 [.int .i64 i.gOp, .int .i64 i.gA, .int .i64 i.gB, .int .i64 i.gC, .int .i64 i.gK] 23 (by kernel_rfl) ?_
 intro b1 w1 S1
 refine J.run 5 K6_1 [(1, .pointer (some ⟨b1, 0, none⟩))] w1 (by kernel_rfl) ?_
 refine J.ok (OK.ldBox S1 0 7 23 0 (.agg #[.int .i64 i.gOp, .int .i64 i.gA, .int .i64 i.gB, .int .i64 i.gC, .int .i64 i.gK]) (by kernel_rfl) rfl (by kernel_rfl)) ?_
 refine J.callF 8 15 #[.agg #[.int .i64 i.gOp, .int .i64 i.gA, .int .i64 i.gB, .int .i64 i.gC, .int .i64 i.gK]] hb15 (by kernel_rfl) (formed_any i _ (insQ_sep hi S1)) ?_
 rintro _ w2 ⟨rfl, T1⟩
 have S2 : Sep w [box b1 [.int .i64 i.gOp, .int .i64 i.gA, .int .i64 i.gB, .int .i64 i.gC, .int .i64 i.gK] 23] w2 := S1.trans T1
 clear T1 S1
 refine J.run 2 K6_2 [(9, .bool (!(formB i))), (1, .pointer (some ⟨b1, 0, none⟩))] w2 (by kernel_rfl) ?_
 rcases Bool.eq_false_or_eq_true (formB i) with fk1 | fk1
 ·skip
  refine J.head (.bool false) (congrArg Value.bool (by rw [fk1]; rfl)) ?_
  have hfp := formB_iff.1 fk1
  have hrs := rows_size (op := i.gOp) (by omega)
  refine J.run 3 K6_3 [(1, .pointer (some ⟨b1, 0, none⟩))] w2 (by kernel_rfl) ?_
  have W1 : ∀ (bd5 : Nat) (bd0 : Nat) (w3 : World), Sep w [box bd0 (rowsL.flatMap rwoE) 43, box bd5 [.string ((rowsL.getD ((i.gOp).toNat) rwo0).gname), .string ((rowsL.getD ((i.gOp).toNat) rwo0).gfields), .int .i64 ((rowsL.getD ((i.gOp).toNat) rwo0).gcost)] 43, box b1 [.int .i64 i.gOp, .int .i64 i.gA, .int .i64 i.gB, .int .i64 i.gC, .int .i64 i.gK] 23] w3 → WA Tryd.prog 6 39 R K6_3 (fun w_ => Sep w [box b1 [.int .i64 i.gOp, .int .i64 i.gA, .int .i64 i.gB, .int .i64 i.gC, .int .i64 i.gK] 23] w_) 0 #[true, true, true, true, true, true, true] [(1, .pointer (some ⟨b1, 0, none⟩)), (3, .pointer (some ⟨bd5, 0, none⟩))] w3 := by
   intro bd5 bd0 w3 S3
   refine WA.done (by kernel_rfl) ?_
   refine J.run 0 (rRest K6_3) [(1, .pointer (some ⟨b1, 0, none⟩)), (3, .pointer (some ⟨bd5, 0, none⟩))] w3 (by kernel_rfl) ?_
   refine J.run 3 K6_4 [(15, .pointer (some ⟨bd5, 0, none⟩)), (1, .pointer (some ⟨b1, 0, none⟩)), (3, .pointer (some ⟨bd5, 0, none⟩))] w3 (by kernel_rfl) ?_
   refine J.ok (OK.ldBox S3 1 16 9 0 (.string ((rowsL.getD ((i.gOp).toNat) rwo0).gname)) (by kernel_rfl) rfl (by kernel_rfl)) ?_
   refine J.run 6 K6_5 [(17, .pointer (some ⟨bd5, 1, none⟩)), (4, .string ((rowsL.getD ((i.gOp).toNat) rwo0).gname)), (1, .pointer (some ⟨b1, 0, none⟩))] w3 (by kernel_rfl) ?_
   refine J.ok (OK.ldBox S3 1 18 9 1 (.string ((rowsL.getD ((i.gOp).toNat) rwo0).gfields)) (by kernel_rfl) rfl (by kernel_rfl)) ?_
   refine J.strBytes S3 19 9 24 5 ((rowsL.getD ((i.gOp).toNat) rwo0).gfields) (by kernel_rfl) (by kernel_rfl) ?_
   intro b2 cq1 w4 S4
   refine J.run 5 K6_6 [(21, .int .i64 0), (20, .int .i64 (((rowsL.getD ((i.gOp).toNat) rwo0).gfields).size : Int)), (19, .slice (some ⟨b2, 0, none⟩) (((rowsL.getD ((i.gOp).toNat) rwo0).gfields).size) cq1), (4, .string ((rowsL.getD ((i.gOp).toNat) rwo0).gname)), (1, .pointer (some ⟨b1, 0, none⟩))] w4 (by kernel_rfl) ?_
   have L6_1 : ∀ (mm_ : Nat) (t : ByteArray) (k : Int) (w5 : World), (0 ≤ k) → (k ≤ ((rowsL.getD i.gOp.toNat rwo0).gfields.size : Int)) → (((t).size : Int) ≤ 7 + 22 * k) → (ls t = ls (rowsL.getD i.gOp.toNat rwo0).gname ++ ((ls (rowsL.getD i.gOp.toNat rwo0).gfields).take (k).toNat).flatMap (partL i)) → Sep w [rows8 b2 ((rowsL.getD ((i.gOp).toNat) rwo0).gfields), box bd0 (rowsL.flatMap rwoE) 43, box bd5 [.string ((rowsL.getD ((i.gOp).toNat) rwo0).gname), .string ((rowsL.getD ((i.gOp).toNat) rwo0).gfields), .int .i64 ((rowsL.getD ((i.gOp).toNat) rwo0).gcost)] 43, box b1 [.int .i64 i.gOp, .int .i64 i.gA, .int .i64 i.gB, .int .i64 i.gC, .int .i64 i.gK] 23] w5 → (((rowsL.getD i.gOp.toNat rwo0).gfields.size : Int) - k).toNat = mm_ → J Tryd.prog 6 39 R K6_6 [(21, .int .i64 k), (20, .int .i64 (((rowsL.getD ((i.gOp).toNat) rwo0).gfields).size : Int)), (19, .slice (some ⟨b2, 0, none⟩) (((rowsL.getD ((i.gOp).toNat) rwo0).gfields).size) cq1), (4, .string t), (1, .pointer (some ⟨b1, 0, none⟩))] w5 := by
    intro mm1
    induction mm1 using Nat.strongRecOn with
    | _ mm1 ih1 =>
    intro t k w5 h0 h1 hz ht S5 hm1
    refine J.run 5 K6_7 [(22, .bool (decide (k < (((rowsL.getD ((i.gOp).toNat) rwo0).gfields).size : Int)))), (21, .int .i64 k), (20, .int .i64 (((rowsL.getD ((i.gOp).toNat) rwo0).gfields).size : Int)), (19, .slice (some ⟨b2, 0, none⟩) (((rowsL.getD ((i.gOp).toNat) rwo0).gfields).size) cq1), (4, .string t), (1, .pointer (some ⟨b1, 0, none⟩))] w5 (by kernel_rfl) ?_
    by_cases fk2 : k < (((rowsL.getD ((i.gOp).toNat) rwo0).gfields).size : Int)
    ·skip
     refine J.head (.bool true) (congrArg Value.bool (decide_eq_true fk2)) ?_
     refine J.run 6 K6_8 [(21, .int .i64 k), (20, .int .i64 (((rowsL.getD ((i.gOp).toNat) rwo0).gfields).size : Int)), (19, .slice (some ⟨b2, 0, none⟩) (((rowsL.getD ((i.gOp).toNat) rwo0).gfields).size) cq1), (4, .string t), (1, .pointer (some ⟨b1, 0, none⟩))] w5 (by kernel_rfl) ?_
     obtain ⟨p1, hp1, hc1⟩ := rows8_at (S5.nth 0 rfl) (k).toNat (by first | omega | (simp; omega))
     have := byteAt_bounds ((rowsL.getD ((i.gOp).toNat) rwo0).gfields) (k).toNat
     refine J.ok (OK.index 23 24 1 (some ⟨b2, 0, none⟩) p1 (((rowsL.getD ((i.gOp).toNat) rwo0).gfields).size) (k).toNat k (p1.add (k).toNat) (by kernel_rfl) (by kernel_rfl) hp1 (by omega) (by first | omega | (simp; omega)) (by rw [Nat.mul_one])) ?_
     refine J.ok (OK.ldCell 24 5 (p1.add (k).toNat) (.int .u8 (byteAt ((rowsL.getD ((i.gOp).toNat) rwo0).gfields) (k).toNat)) (by kernel_rfl) (by kernel_rfl) hc1) ?_
     refine J.run 5 K6_9 [(25, .string t), (6, .int .u8 (byteAt ((rowsL.getD ((i.gOp).toNat) rwo0).gfields) (k).toNat)), (21, .int .i64 k), (20, .int .i64 (((rowsL.getD ((i.gOp).toNat) rwo0).gfields).size : Int)), (19, .slice (some ⟨b2, 0, none⟩) (((rowsL.getD ((i.gOp).toNat) rwo0).gfields).size) cq1), (1, .pointer (some ⟨b1, 0, none⟩))] w5 (by kernel_rfl) ?_
     refine J.ok (OK.cat 26 t (⟨#[32]⟩ : ByteArray) (t ++ (⟨#[32]⟩ : ByteArray)) (by kernel_rfl) (by first | (simp only [ByteArray.size_append, lit_size, List.size_toArray, List.length_cons, List.length_nil]; omega)) (rfl)) ?_
     refine J.run 8 K6_10 [(28, .bool ((byteAt ((rowsL.getD ((i.gOp).toNat) rwo0).gfields) (k).toNat) != 75)), (4, .string (t ++ (⟨#[32]⟩ : ByteArray))), (6, .int .u8 (byteAt ((rowsL.getD ((i.gOp).toNat) rwo0).gfields) (k).toNat)), (21, .int .i64 k), (20, .int .i64 (((rowsL.getD ((i.gOp).toNat) rwo0).gfields).size : Int)), (19, .slice (some ⟨b2, 0, none⟩) (((rowsL.getD ((i.gOp).toNat) rwo0).gfields).size) cq1), (1, .pointer (some ⟨b1, 0, none⟩))] w5 (by kernel_rfl) ?_
     by_cases fk3 : (byteAt ((rowsL.getD ((i.gOp).toNat) rwo0).gfields) (k).toNat) = 75
     ·skip
      refine J.head (.bool false) (congrArg Value.bool (bne_eq_false_iff_eq.2 fk3)) ?_
      refine J.run 4 K6_11 [(31, .string (t ++ (⟨#[32]⟩ : ByteArray))), (6, .int .u8 (byteAt ((rowsL.getD ((i.gOp).toNat) rwo0).gfields) (k).toNat)), (21, .int .i64 k), (20, .int .i64 (((rowsL.getD ((i.gOp).toNat) rwo0).gfields).size : Int)), (19, .slice (some ⟨b2, 0, none⟩) (((rowsL.getD ((i.gOp).toNat) rwo0).gfields).size) cq1), (1, .pointer (some ⟨b1, 0, none⟩))] w5 (by kernel_rfl) ?_
      refine J.ok (OK.ldBox S5 3 32 23 0 (.agg #[.int .i64 i.gOp, .int .i64 i.gA, .int .i64 i.gB, .int .i64 i.gC, .int .i64 i.gK]) (by kernel_rfl) rfl (by kernel_rfl)) ?_
      refine J.run 1 K6_12 [(33, .int .u8 (byteAt ((rowsL.getD ((i.gOp).toNat) rwo0).gfields) (k).toNat)), (32, .agg #[.int .i64 i.gOp, .int .i64 i.gA, .int .i64 i.gB, .int .i64 i.gC, .int .i64 i.gK]), (31, .string (t ++ (⟨#[32]⟩ : ByteArray))), (21, .int .i64 k), (20, .int .i64 (((rowsL.getD ((i.gOp).toNat) rwo0).gfields).size : Int)), (19, .slice (some ⟨b2, 0, none⟩) (((rowsL.getD ((i.gOp).toNat) rwo0).gfields).size) cq1), (1, .pointer (some ⟨b1, 0, none⟩))] w5 (by kernel_rfl) ?_
      refine J.callF 34 18 #[.agg #[.int .i64 i.gOp, .int .i64 i.gA, .int .i64 i.gB, .int .i64 i.gC, .int .i64 i.gK], .int .u8 (byteAt ((rowsL.getD ((i.gOp).toNat) rwo0).gfields) (k).toNat)] hb18 (by kernel_rfl) (field_any i (byteAt ((rowsL.getD ((i.gOp).toNat) rwo0).gfields) (k).toNat) _) ?_
      rintro _ w6 ⟨rfl, T2⟩
      have S6 : Sep w [rows8 b2 ((rowsL.getD ((i.gOp).toNat) rwo0).gfields), box bd0 (rowsL.flatMap rwoE) 43, box bd5 [.string ((rowsL.getD ((i.gOp).toNat) rwo0).gname), .string ((rowsL.getD ((i.gOp).toNat) rwo0).gfields), .int .i64 ((rowsL.getD ((i.gOp).toNat) rwo0).gcost)] 43, box b1 [.int .i64 i.gOp, .int .i64 i.gA, .int .i64 i.gB, .int .i64 i.gC, .int .i64 i.gK] 23] w6 := S5.trans T2
      clear T2 S5
      have hfb := fld_bd (i := i) ⟨by omega, by omega, by omega, by omega⟩ (byteAt ((rowsL.getD ((i.gOp).toNat) rwo0).gfields) (k).toNat)
      refine J.callF 35 17 #[.int .i64 (fldF i (byteAt ((rowsL.getD ((i.gOp).toNat) rwo0).gfields) (k).toNat))] hb17 (by kernel_rfl) (itoa_any (fldF i (byteAt ((rowsL.getD ((i.gOp).toNat) rwo0).gfields) (k).toNat)) _ (by omega) (tabW_sep hW S6)) ?_
      rintro _ w7 ⟨rfl, T3⟩
      have S7 : Sep w [rows8 b2 ((rowsL.getD ((i.gOp).toNat) rwo0).gfields), box bd0 (rowsL.flatMap rwoE) 43, box bd5 [.string ((rowsL.getD ((i.gOp).toNat) rwo0).gname), .string ((rowsL.getD ((i.gOp).toNat) rwo0).gfields), .int .i64 ((rowsL.getD ((i.gOp).toNat) rwo0).gcost)] 43, box b1 [.int .i64 i.gOp, .int .i64 i.gA, .int .i64 i.gB, .int .i64 i.gC, .int .i64 i.gK] 23] w7 := S6.trans T3
      clear T3 S6
      have := itoaB_size (n := (fldF i (byteAt ((rowsL.getD ((i.gOp).toNat) rwo0).gfields) (k).toNat))) (by omega)
      refine J.ok (OK.cat 36 (t ++ (⟨#[32]⟩ : ByteArray)) (itoaB (fldF i (byteAt ((rowsL.getD ((i.gOp).toNat) rwo0).gfields) (k).toNat))) ((t ++ (⟨#[32]⟩ : ByteArray)) ++ (itoaB (fldF i (byteAt ((rowsL.getD ((i.gOp).toNat) rwo0).gfields) (k).toNat)))) (by kernel_rfl) (by first | (simp only [ByteArray.size_append, lit_size, List.size_toArray, List.length_cons, List.length_nil]; omega)) (rfl)) ?_
      refine J.run 5 K6_13 [(37, .int .i64 (IntKind.wrap .i64 (k + 1))), (4, .string ((t ++ (⟨#[32]⟩ : ByteArray)) ++ (itoaB (fldF i (byteAt ((rowsL.getD ((i.gOp).toNat) rwo0).gfields) (k).toNat))))), (20, .int .i64 (((rowsL.getD ((i.gOp).toNat) rwo0).gfields).size : Int)), (19, .slice (some ⟨b2, 0, none⟩) (((rowsL.getD ((i.gOp).toNat) rwo0).gfields).size) cq1), (1, .pointer (some ⟨b1, 0, none⟩))] w7 (by kernel_rfl) ?_
      refine J.head (.int .i64 (k + 1)) (congrArg (Value.int .i64) (IntWalk.i64_in _ (by omega))) ?_
      refine J.run 3 K6_6 [(21, .int .i64 (k + 1)), (4, .string ((t ++ (⟨#[32]⟩ : ByteArray)) ++ (itoaB (fldF i (byteAt ((rowsL.getD ((i.gOp).toNat) rwo0).gfields) (k).toNat))))), (20, .int .i64 (((rowsL.getD ((i.gOp).toNat) rwo0).gfields).size : Int)), (19, .slice (some ⟨b2, 0, none⟩) (((rowsL.getD ((i.gOp).toNat) rwo0).gfields).size) cq1), (1, .pointer (some ⟨b1, 0, none⟩))] w7 (by kernel_rfl) ?_
      refine J.run 0 K6_6 [(21, .int .i64 (k + 1)), (20, .int .i64 (((rowsL.getD ((i.gOp).toNat) rwo0).gfields).size : Int)), (19, .slice (some ⟨b2, 0, none⟩) (((rowsL.getD ((i.gOp).toNat) rwo0).gfields).size) cq1), (4, .string ((t ++ (⟨#[32]⟩ : ByteArray)) ++ (itoaB (fldF i (byteAt ((rowsL.getD ((i.gOp).toNat) rwo0).gfields) (k).toNat))))), (1, .pointer (some ⟨b1, 0, none⟩))] w7 (by kernel_rfl) ?_
      exact ih1 _ (show (((rowsL.getD i.gOp.toNat rwo0).gfields.size : Int) - (k + 1)).toNat < mm1 from by omega) ((t ++ (⟨#[32]⟩ : ByteArray)) ++ (itoaB (fldF i (byteAt ((rowsL.getD ((i.gOp).toNat) rwo0).gfields) (k).toNat)))) (k + 1) w7 (by omega) (by omega) (by simp only [ByteArray.size_append, lit_size, List.size_toArray, List.length_cons, List.length_nil]; omega) (text_step h0 (by omega) ht (part_k (by omega))) S7 rfl
     ·skip
      refine J.head (.bool true) (congrArg Value.bool (bne_iff_ne.2 fk3)) ?_
      refine J.run 3 K6_14 [(29, .string (t ++ (⟨#[32]⟩ : ByteArray))), (6, .int .u8 (byteAt ((rowsL.getD ((i.gOp).toNat) rwo0).gfields) (k).toNat)), (21, .int .i64 k), (20, .int .i64 (((rowsL.getD ((i.gOp).toNat) rwo0).gfields).size : Int)), (19, .slice (some ⟨b2, 0, none⟩) (((rowsL.getD ((i.gOp).toNat) rwo0).gfields).size) cq1), (1, .pointer (some ⟨b1, 0, none⟩))] w5 (by kernel_rfl) ?_
      refine J.ok (OK.cat 30 (t ++ (⟨#[32]⟩ : ByteArray)) (⟨#[114]⟩ : ByteArray) ((t ++ (⟨#[32]⟩ : ByteArray)) ++ (⟨#[114]⟩ : ByteArray)) (by kernel_rfl) (by first | (simp only [ByteArray.size_append, lit_size, List.size_toArray, List.length_cons, List.length_nil]; omega)) (rfl)) ?_
      refine J.run 4 K6_15 [(31, .string ((t ++ (⟨#[32]⟩ : ByteArray)) ++ (⟨#[114]⟩ : ByteArray))), (6, .int .u8 (byteAt ((rowsL.getD ((i.gOp).toNat) rwo0).gfields) (k).toNat)), (21, .int .i64 k), (20, .int .i64 (((rowsL.getD ((i.gOp).toNat) rwo0).gfields).size : Int)), (19, .slice (some ⟨b2, 0, none⟩) (((rowsL.getD ((i.gOp).toNat) rwo0).gfields).size) cq1), (1, .pointer (some ⟨b1, 0, none⟩))] w5 (by kernel_rfl) ?_
      refine J.ok (OK.ldBox S5 3 32 23 0 (.agg #[.int .i64 i.gOp, .int .i64 i.gA, .int .i64 i.gB, .int .i64 i.gC, .int .i64 i.gK]) (by kernel_rfl) rfl (by kernel_rfl)) ?_
      refine J.run 1 K6_16 [(33, .int .u8 (byteAt ((rowsL.getD ((i.gOp).toNat) rwo0).gfields) (k).toNat)), (32, .agg #[.int .i64 i.gOp, .int .i64 i.gA, .int .i64 i.gB, .int .i64 i.gC, .int .i64 i.gK]), (31, .string ((t ++ (⟨#[32]⟩ : ByteArray)) ++ (⟨#[114]⟩ : ByteArray))), (21, .int .i64 k), (20, .int .i64 (((rowsL.getD ((i.gOp).toNat) rwo0).gfields).size : Int)), (19, .slice (some ⟨b2, 0, none⟩) (((rowsL.getD ((i.gOp).toNat) rwo0).gfields).size) cq1), (1, .pointer (some ⟨b1, 0, none⟩))] w5 (by kernel_rfl) ?_
      refine J.callF 34 18 #[.agg #[.int .i64 i.gOp, .int .i64 i.gA, .int .i64 i.gB, .int .i64 i.gC, .int .i64 i.gK], .int .u8 (byteAt ((rowsL.getD ((i.gOp).toNat) rwo0).gfields) (k).toNat)] hb18 (by kernel_rfl) (field_any i (byteAt ((rowsL.getD ((i.gOp).toNat) rwo0).gfields) (k).toNat) _) ?_
      rintro _ w8 ⟨rfl, T4⟩
      have S8 : Sep w [rows8 b2 ((rowsL.getD ((i.gOp).toNat) rwo0).gfields), box bd0 (rowsL.flatMap rwoE) 43, box bd5 [.string ((rowsL.getD ((i.gOp).toNat) rwo0).gname), .string ((rowsL.getD ((i.gOp).toNat) rwo0).gfields), .int .i64 ((rowsL.getD ((i.gOp).toNat) rwo0).gcost)] 43, box b1 [.int .i64 i.gOp, .int .i64 i.gA, .int .i64 i.gB, .int .i64 i.gC, .int .i64 i.gK] 23] w8 := S5.trans T4
      clear T4 S5
      have hfb := fld_bd (i := i) ⟨by omega, by omega, by omega, by omega⟩ (byteAt ((rowsL.getD ((i.gOp).toNat) rwo0).gfields) (k).toNat)
      refine J.callF 35 17 #[.int .i64 (fldF i (byteAt ((rowsL.getD ((i.gOp).toNat) rwo0).gfields) (k).toNat))] hb17 (by kernel_rfl) (itoa_any (fldF i (byteAt ((rowsL.getD ((i.gOp).toNat) rwo0).gfields) (k).toNat)) _ (by omega) (tabW_sep hW S8)) ?_
      rintro _ w9 ⟨rfl, T5⟩
      have S9 : Sep w [rows8 b2 ((rowsL.getD ((i.gOp).toNat) rwo0).gfields), box bd0 (rowsL.flatMap rwoE) 43, box bd5 [.string ((rowsL.getD ((i.gOp).toNat) rwo0).gname), .string ((rowsL.getD ((i.gOp).toNat) rwo0).gfields), .int .i64 ((rowsL.getD ((i.gOp).toNat) rwo0).gcost)] 43, box b1 [.int .i64 i.gOp, .int .i64 i.gA, .int .i64 i.gB, .int .i64 i.gC, .int .i64 i.gK] 23] w9 := S8.trans T5
      clear T5 S8
      have := itoaB_size (n := (fldF i (byteAt ((rowsL.getD ((i.gOp).toNat) rwo0).gfields) (k).toNat))) (by omega)
      refine J.ok (OK.cat 36 ((t ++ (⟨#[32]⟩ : ByteArray)) ++ (⟨#[114]⟩ : ByteArray)) (itoaB (fldF i (byteAt ((rowsL.getD ((i.gOp).toNat) rwo0).gfields) (k).toNat))) (((t ++ (⟨#[32]⟩ : ByteArray)) ++ (⟨#[114]⟩ : ByteArray)) ++ (itoaB (fldF i (byteAt ((rowsL.getD ((i.gOp).toNat) rwo0).gfields) (k).toNat)))) (by kernel_rfl) (by first | (simp only [ByteArray.size_append, lit_size, List.size_toArray, List.length_cons, List.length_nil]; omega)) (rfl)) ?_
      refine J.run 5 K6_17 [(37, .int .i64 (IntKind.wrap .i64 (k + 1))), (4, .string (((t ++ (⟨#[32]⟩ : ByteArray)) ++ (⟨#[114]⟩ : ByteArray)) ++ (itoaB (fldF i (byteAt ((rowsL.getD ((i.gOp).toNat) rwo0).gfields) (k).toNat))))), (20, .int .i64 (((rowsL.getD ((i.gOp).toNat) rwo0).gfields).size : Int)), (19, .slice (some ⟨b2, 0, none⟩) (((rowsL.getD ((i.gOp).toNat) rwo0).gfields).size) cq1), (1, .pointer (some ⟨b1, 0, none⟩))] w9 (by kernel_rfl) ?_
      refine J.head (.int .i64 (k + 1)) (congrArg (Value.int .i64) (IntWalk.i64_in _ (by omega))) ?_
      refine J.run 3 K6_6 [(21, .int .i64 (k + 1)), (4, .string (((t ++ (⟨#[32]⟩ : ByteArray)) ++ (⟨#[114]⟩ : ByteArray)) ++ (itoaB (fldF i (byteAt ((rowsL.getD ((i.gOp).toNat) rwo0).gfields) (k).toNat))))), (20, .int .i64 (((rowsL.getD ((i.gOp).toNat) rwo0).gfields).size : Int)), (19, .slice (some ⟨b2, 0, none⟩) (((rowsL.getD ((i.gOp).toNat) rwo0).gfields).size) cq1), (1, .pointer (some ⟨b1, 0, none⟩))] w9 (by kernel_rfl) ?_
      refine J.run 0 K6_6 [(21, .int .i64 (k + 1)), (20, .int .i64 (((rowsL.getD ((i.gOp).toNat) rwo0).gfields).size : Int)), (19, .slice (some ⟨b2, 0, none⟩) (((rowsL.getD ((i.gOp).toNat) rwo0).gfields).size) cq1), (4, .string (((t ++ (⟨#[32]⟩ : ByteArray)) ++ (⟨#[114]⟩ : ByteArray)) ++ (itoaB (fldF i (byteAt ((rowsL.getD ((i.gOp).toNat) rwo0).gfields) (k).toNat))))), (1, .pointer (some ⟨b1, 0, none⟩))] w9 (by kernel_rfl) ?_
      exact ih1 _ (show (((rowsL.getD i.gOp.toNat rwo0).gfields.size : Int) - (k + 1)).toNat < mm1 from by omega) (((t ++ (⟨#[32]⟩ : ByteArray)) ++ (⟨#[114]⟩ : ByteArray)) ++ (itoaB (fldF i (byteAt ((rowsL.getD ((i.gOp).toNat) rwo0).gfields) (k).toNat)))) (k + 1) w9 (by omega) (by omega) (by simp only [ByteArray.size_append, lit_size, List.size_toArray, List.length_cons, List.length_nil]; omega) (text_step h0 (by omega) ht (part_r (by omega))) S9 rfl
    ·skip
     refine J.head (.bool false) (congrArg Value.bool (decide_eq_false fk2)) ?_
     refine J.run 7 K6_18 [(2, .string t)] w5 (by kernel_rfl) ?_
     refine J.ret Tryd.f6 [.string t] Tryd.func6 ⟨by kernel_rfl, trivial⟩ ?_
     refine hR _ _ ?_
     rw [show k.toNat = (rowsL.getD i.gOp.toNat rwo0).gfields.size by omega] at ht
     exact ⟨congrArg Value.string (text_done fk1 ht), S5.nil⟩
   exact L6_1 _ ((rowsL.getD ((i.gOp).toNat) rwo0).gname) 0 w4 (by omega) (by omega) (by omega) (by simp) S4 rfl
  have W2 : ∀ (bd5 : Nat) (bd0 : Nat) (w10 : World), Sep w [box bd0 (rowsL.flatMap rwoE) 43, box bd5 [.string ByteArray.empty, .string ByteArray.empty, .int .i64 0] 43, box b1 [.int .i64 i.gOp, .int .i64 i.gA, .int .i64 i.gB, .int .i64 i.gC, .int .i64 i.gK] 23] w10 → WA Tryd.prog 6 39 R K6_3 (fun w_ => Sep w [box b1 [.int .i64 i.gOp, .int .i64 i.gA, .int .i64 i.gB, .int .i64 i.gC, .int .i64 i.gK] 23] w_) 1 #[true, true, true, true, true, true, false] [(1, .pointer (some ⟨b1, 0, none⟩)), (3, .pointer (some ⟨bd5, 0, none⟩)), (14, .agg #[.string ((rowsL.getD ((i.gOp).toNat) rwo0).gname), .string ((rowsL.getD ((i.gOp).toNat) rwo0).gfields), .int .i64 ((rowsL.getD ((i.gOp).toNat) rwo0).gcost)])] w10 := by
   intro bd5 bd0 w10 S10
   refine WA.all [6] (by kernel_rfl) rfl ⟨?_, trivial⟩
   ·skip
    refine WO.set #[true, true, true, true, true, true, true] (by kernel_rfl) ?_
    refine WO.stBox S10 1 43 0 (.agg #[.string ((rowsL.getD ((i.gOp).toNat) rwo0).gname), .string ((rowsL.getD ((i.gOp).toNat) rwo0).gfields), .int .i64 ((rowsL.getD ((i.gOp).toNat) rwo0).gcost)]) [.string ((rowsL.getD ((i.gOp).toNat) rwo0).gname), .string ((rowsL.getD ((i.gOp).toNat) rwo0).gfields), .int .i64 ((rowsL.getD ((i.gOp).toNat) rwo0).gcost)] [box bd0 (rowsL.flatMap rwoE) 43, box bd5 [.string ((rowsL.getD ((i.gOp).toNat) rwo0).gname), .string ((rowsL.getD ((i.gOp).toNat) rwo0).gfields), .int .i64 ((rowsL.getD ((i.gOp).toNat) rwo0).gcost)] 43, box b1 [.int .i64 i.gOp, .int .i64 i.gA, .int .i64 i.gB, .int .i64 i.gC, .int .i64 i.gK] 23] (by kernel_rfl) rfl (by kernel_rfl) (by kernel_rfl) rfl ?_
    intro w11 S11
    refine WB.mk ((S11.erase 1).erase 0) ?_
    refine WA.weaken (env' := [(1, .pointer (some ⟨b1, 0, none⟩)), (3, .pointer (some ⟨bd5, 0, none⟩))]) (by kernel_rfl) ?_
    exact W1 bd5 bd0 w11 S11
  have W3 : ∀ (bd5 : Nat) (bd0 : Nat) (w12 : World), Sep w [box bd0 (rowsL.flatMap rwoE) 43, box bd5 [.string ByteArray.empty, .string ByteArray.empty, .int .i64 0] 43, box b1 [.int .i64 i.gOp, .int .i64 i.gA, .int .i64 i.gB, .int .i64 i.gC, .int .i64 i.gK] 23] w12 → WA Tryd.prog 6 39 R K6_3 (fun w_ => Sep w [box b1 [.int .i64 i.gOp, .int .i64 i.gA, .int .i64 i.gB, .int .i64 i.gC, .int .i64 i.gK] 23] w_) 2 #[true, true, true, true, false, true, false] [(1, .pointer (some ⟨b1, 0, none⟩)), (3, .pointer (some ⟨bd5, 0, none⟩)), (13, .pointer (some ⟨bd0, ((i.gOp).toNat) * 3, none⟩))] w12 := by
   intro bd5 bd0 w12 S12
   refine WA.all [4] (by kernel_rfl) rfl ⟨?_, trivial⟩
   ·skip
    refine WO.set #[true, true, true, true, true, true, false] (by kernel_rfl) ?_
    refine WO.ok (OK.ldCells 14 43 ⟨bd0, ((i.gOp).toNat) * 3, none⟩ [.string ((rowsL.getD ((i.gOp).toNat) rwo0).gname), .string ((rowsL.getD ((i.gOp).toNat) rwo0).gfields), .int .i64 ((rowsL.getD ((i.gOp).toNat) rwo0).gcost)] (by kernel_rfl) (by kernel_rfl) (by kernel_rfl) (box_rec_at (s := 3) (S12.nth 0 rfl) (fun _ => rfl) (by decide) rwo0 ((i.gOp).toNat) (by first | omega | (simp; omega)))) ?_
    refine WB.mk ((S12.erase 1).erase 0) ?_
    refine WA.weaken (env' := [(1, .pointer (some ⟨b1, 0, none⟩)), (3, .pointer (some ⟨bd5, 0, none⟩)), (14, .agg #[.string ((rowsL.getD ((i.gOp).toNat) rwo0).gname), .string ((rowsL.getD ((i.gOp).toNat) rwo0).gfields), .int .i64 ((rowsL.getD ((i.gOp).toNat) rwo0).gcost)])]) (by kernel_rfl) ?_
    exact W2 bd5 bd0 w12 S12
  have W4 : ∀ (bd0 : Nat) (w13 : World), Sep w [box bd0 (rowsL.flatMap rwoE) 43, box b1 [.int .i64 i.gOp, .int .i64 i.gA, .int .i64 i.gB, .int .i64 i.gC, .int .i64 i.gK] 23] w13 → WA Tryd.prog 6 39 R K6_3 (fun w_ => Sep w [box b1 [.int .i64 i.gOp, .int .i64 i.gA, .int .i64 i.gB, .int .i64 i.gC, .int .i64 i.gK] 23] w_) 2 #[true, true, true, true, true, false, false] [(1, .pointer (some ⟨b1, 0, none⟩)), (14, .agg #[.string ((rowsL.getD ((i.gOp).toNat) rwo0).gname), .string ((rowsL.getD ((i.gOp).toNat) rwo0).gfields), .int .i64 ((rowsL.getD ((i.gOp).toNat) rwo0).gcost)])] w13 := by
   intro bd0 w13 S13
   refine WA.all [5] (by kernel_rfl) rfl ⟨?_, trivial⟩
   ·skip
    refine WO.set #[true, true, true, true, true, true, false] (by kernel_rfl) ?_
    refine WO.new S13 3 [.string ByteArray.empty, .string ByteArray.empty, .int .i64 0] 43 (by kernel_rfl) ?_
    intro bd5 w14 S14
    refine WB.mk ((S14.erase 1).erase 0) ?_
    refine WA.weaken (env' := [(1, .pointer (some ⟨b1, 0, none⟩)), (3, .pointer (some ⟨bd5, 0, none⟩)), (14, .agg #[.string ((rowsL.getD ((i.gOp).toNat) rwo0).gname), .string ((rowsL.getD ((i.gOp).toNat) rwo0).gfields), .int .i64 ((rowsL.getD ((i.gOp).toNat) rwo0).gcost)])]) (by kernel_rfl) ?_
    have S15 : Sep w [box bd5 [.string ByteArray.empty, .string ByteArray.empty, .int .i64 0] 43, box bd0 (rowsL.flatMap rwoE) 43, box b1 [.int .i64 i.gOp, .int .i64 i.gA, .int .i64 i.gB, .int .i64 i.gC, .int .i64 i.gK] 23] w14 := S14.front 0 rfl
    have S16 : Sep w [box bd0 (rowsL.flatMap rwoE) 43, box bd5 [.string ByteArray.empty, .string ByteArray.empty, .int .i64 0] 43, box b1 [.int .i64 i.gOp, .int .i64 i.gA, .int .i64 i.gB, .int .i64 i.gC, .int .i64 i.gK] 23] w14 := S15.front 1 rfl
    exact W2 bd5 bd0 w14 S16
  have W5 : ∀ (bd0 : Nat) (w15 : World), Sep w [box bd0 (rowsL.flatMap rwoE) 43, box b1 [.int .i64 i.gOp, .int .i64 i.gA, .int .i64 i.gB, .int .i64 i.gC, .int .i64 i.gK] 23] w15 → WA Tryd.prog 6 39 R K6_3 (fun w_ => Sep w [box b1 [.int .i64 i.gOp, .int .i64 i.gA, .int .i64 i.gB, .int .i64 i.gC, .int .i64 i.gK] 23] w_) 3 #[true, true, true, true, false, false, false] [(1, .pointer (some ⟨b1, 0, none⟩)), (13, .pointer (some ⟨bd0, ((i.gOp).toNat) * 3, none⟩))] w15 := by
   intro bd0 w15 S17
   refine WA.all [4, 5] (by kernel_rfl) rfl ⟨?_, ?_, trivial⟩
   ·skip
    refine WO.set #[true, true, true, true, true, false, false] (by kernel_rfl) ?_
    refine WO.ok (OK.ldCells 14 43 ⟨bd0, ((i.gOp).toNat) * 3, none⟩ [.string ((rowsL.getD ((i.gOp).toNat) rwo0).gname), .string ((rowsL.getD ((i.gOp).toNat) rwo0).gfields), .int .i64 ((rowsL.getD ((i.gOp).toNat) rwo0).gcost)] (by kernel_rfl) (by kernel_rfl) (by kernel_rfl) (box_rec_at (s := 3) (S17.nth 0 rfl) (fun _ => rfl) (by decide) rwo0 ((i.gOp).toNat) (by first | omega | (simp; omega)))) ?_
    refine WB.mk (S17.erase 0) ?_
    refine WA.weaken (env' := [(1, .pointer (some ⟨b1, 0, none⟩)), (14, .agg #[.string ((rowsL.getD ((i.gOp).toNat) rwo0).gname), .string ((rowsL.getD ((i.gOp).toNat) rwo0).gfields), .int .i64 ((rowsL.getD ((i.gOp).toNat) rwo0).gcost)])]) (by kernel_rfl) ?_
    exact W4 bd0 w15 S17
   ·skip
    refine WO.set #[true, true, true, true, false, true, false] (by kernel_rfl) ?_
    refine WO.new S17 3 [.string ByteArray.empty, .string ByteArray.empty, .int .i64 0] 43 (by kernel_rfl) ?_
    intro bd5 w16 S18
    refine WB.mk ((S18.erase 1).erase 0) ?_
    refine WA.weaken (env' := [(1, .pointer (some ⟨b1, 0, none⟩)), (3, .pointer (some ⟨bd5, 0, none⟩)), (13, .pointer (some ⟨bd0, ((i.gOp).toNat) * 3, none⟩))]) (by kernel_rfl) ?_
    have S19 : Sep w [box bd5 [.string ByteArray.empty, .string ByteArray.empty, .int .i64 0] 43, box bd0 (rowsL.flatMap rwoE) 43, box b1 [.int .i64 i.gOp, .int .i64 i.gA, .int .i64 i.gB, .int .i64 i.gC, .int .i64 i.gK] 23] w16 := S18.front 0 rfl
    have S20 : Sep w [box bd0 (rowsL.flatMap rwoE) 43, box bd5 [.string ByteArray.empty, .string ByteArray.empty, .int .i64 0] 43, box b1 [.int .i64 i.gOp, .int .i64 i.gA, .int .i64 i.gB, .int .i64 i.gC, .int .i64 i.gK] 23] w16 := S19.front 1 rfl
    exact W3 bd5 bd0 w16 S20
  have W6 : ∀ (bd5 : Nat) (w17 : World), Sep w [box bd5 [.string ByteArray.empty, .string ByteArray.empty, .int .i64 0] 43, box b1 [.int .i64 i.gOp, .int .i64 i.gA, .int .i64 i.gB, .int .i64 i.gC, .int .i64 i.gK] 23] w17 → WA Tryd.prog 6 39 R K6_3 (fun w_ => Sep w [box b1 [.int .i64 i.gOp, .int .i64 i.gA, .int .i64 i.gB, .int .i64 i.gC, .int .i64 i.gK] 23] w_) 4 #[false, true, true, false, false, true, false] [(1, .pointer (some ⟨b1, 0, none⟩)), (3, .pointer (some ⟨bd5, 0, none⟩)), (12, .int .i64 i.gOp)] w17 := by
   intro bd5 w17 S21
   refine WA.all [0] (by kernel_rfl) rfl ⟨?_, trivial⟩
   ·skip
    refine WO.set #[true, true, true, false, false, true, false] (by kernel_rfl) ?_
    refine WO.callF 10 16 #[] hb16 (by kernel_rfl) (rows_any _) ?_
    rintro _ w18 ⟨bd0, rfl, T6⟩
    have S22 : Sep w [box bd0 (rowsL.flatMap rwoE) 43, box bd5 [.string ByteArray.empty, .string ByteArray.empty, .int .i64 0] 43, box b1 [.int .i64 i.gOp, .int .i64 i.gA, .int .i64 i.gB, .int .i64 i.gC, .int .i64 i.gK] 23] w18 := S21.trans T6
    clear T6 S21
    refine WB.mk ((S22.erase 1).erase 0) ?_
    refine WA.takeOK 3 #[true, true, true, true, false, true, false] (by kernel_rfl) (by kernel_rfl) (by kernel_rfl) (by kernel_rfl) (fun w_ S_ => OK.index 13 44 3 (some ⟨bd0, 0, none⟩) ⟨bd0, 0, none⟩ 23 (i.gOp).toNat i.gOp ⟨bd0, ((i.gOp).toNat) * 3, none⟩ (by kernel_rfl) (by kernel_rfl) rfl (by omega) (by first | omega | (simp; omega)) (by rw [add_block, Nat.zero_add])) rfl ?_
    refine WA.weaken (env' := [(1, .pointer (some ⟨b1, 0, none⟩)), (3, .pointer (some ⟨bd5, 0, none⟩)), (13, .pointer (some ⟨bd0, ((i.gOp).toNat) * 3, none⟩))]) (by kernel_rfl) ?_
    exact W3 bd5 bd0 w18 S22
  have W7 : ∀ (w19 : World), Sep w [box b1 [.int .i64 i.gOp, .int .i64 i.gA, .int .i64 i.gB, .int .i64 i.gC, .int .i64 i.gK] 23] w19 → WA Tryd.prog 6 39 R K6_3 (fun w_ => Sep w [box b1 [.int .i64 i.gOp, .int .i64 i.gA, .int .i64 i.gB, .int .i64 i.gC, .int .i64 i.gK] 23] w_) 5 #[false, true, true, false, false, false, false] [(1, .pointer (some ⟨b1, 0, none⟩)), (12, .int .i64 i.gOp)] w19 := by
   intro w19 S23
   refine WA.all [0, 5] (by kernel_rfl) rfl ⟨?_, ?_, trivial⟩
   ·skip
    refine WO.set #[true, true, true, false, false, false, false] (by kernel_rfl) ?_
    refine WO.callF 10 16 #[] hb16 (by kernel_rfl) (rows_any _) ?_
    rintro _ w20 ⟨bd0, rfl, T7⟩
    have S24 : Sep w [box bd0 (rowsL.flatMap rwoE) 43, box b1 [.int .i64 i.gOp, .int .i64 i.gA, .int .i64 i.gB, .int .i64 i.gC, .int .i64 i.gK] 23] w20 := S23.trans T7
    clear T7 S23
    refine WB.mk (S24.erase 0) ?_
    refine WA.takeOK 3 #[true, true, true, true, false, false, false] (by kernel_rfl) (by kernel_rfl) (by kernel_rfl) (by kernel_rfl) (fun w_ S_ => OK.index 13 44 3 (some ⟨bd0, 0, none⟩) ⟨bd0, 0, none⟩ 23 (i.gOp).toNat i.gOp ⟨bd0, ((i.gOp).toNat) * 3, none⟩ (by kernel_rfl) (by kernel_rfl) rfl (by omega) (by first | omega | (simp; omega)) (by rw [add_block, Nat.zero_add])) rfl ?_
    refine WA.weaken (env' := [(1, .pointer (some ⟨b1, 0, none⟩)), (13, .pointer (some ⟨bd0, ((i.gOp).toNat) * 3, none⟩))]) (by kernel_rfl) ?_
    exact W5 bd0 w20 S24
   ·skip
    refine WO.set #[false, true, true, false, false, true, false] (by kernel_rfl) ?_
    refine WO.new S23 3 [.string ByteArray.empty, .string ByteArray.empty, .int .i64 0] 43 (by kernel_rfl) ?_
    intro bd5 w21 S25
    refine WB.mk (S25.erase 0) ?_
    refine WA.weaken (env' := [(1, .pointer (some ⟨b1, 0, none⟩)), (3, .pointer (some ⟨bd5, 0, none⟩)), (12, .int .i64 i.gOp)]) (by kernel_rfl) ?_
    exact W6 bd5 w21 S25
  refine J.drawAny (fun w_ => Sep w [box b1 [.int .i64 i.gOp, .int .i64 i.gA, .int .i64 i.gB, .int .i64 i.gC, .int .i64 i.gK] 23] w_) S2 7 #[false, false, false, false, false, false, false] Tryd.mixed (by kernel_rfl) (by kernel_rfl) (by kernel_rfl) ?_
  intro w22 S26
  refine WB.mk S26 ?_
  refine WA.take 1 11 (.pointer (some ⟨b1, 0, none⟩)) #[false, true, false, false, false, false, false] (by kernel_rfl) (by kernel_rfl) (by kernel_rfl) (fun _ _ => by kernel_rfl) (by kernel_rfl) ?_
  refine WA.takeOK 2 #[false, true, true, false, false, false, false] (by kernel_rfl) (by kernel_rfl) (by kernel_rfl) (by kernel_rfl) (fun w_ S_ => OK.ldBox S_ 0 12 3 0 (.int .i64 i.gOp) (by kernel_rfl) rfl (by kernel_rfl)) rfl ?_
  refine WA.weaken (env' := [(1, .pointer (some ⟨b1, 0, none⟩)), (12, .int .i64 i.gOp)]) (by kernel_rfl) ?_
  exact W7 w22 S26
 ·skip
  refine J.head (.bool true) (congrArg Value.bool (by rw [fk1]; rfl)) ?_
  refine J.run 5 K6_19 [(2, .string ByteArray.empty)] w2 (by kernel_rfl) ?_
  refine J.ret Tryd.f6 [.string ByteArray.empty] Tryd.func6 ⟨by kernel_rfl, trivial⟩ ?_
  refine hR _ _ ?_
  exact ⟨congrArg Value.string (textI_no fk1).symm, S2.nil⟩

theorem ls_itoaB (n : Int) : ls (itoaB n) = Lib.itoa n := rfl
theorem atM_bd (l : List UInt8) : -9223372036854775808 ≤ (atM l).getD 0 ∧ (atM l).getD 0 ≤ 9223372036854775807 := by
  unfold atM
  split
  · rename_i n h
    have := Lib.atoiAll_bounds h
    simp only [Option.getD_some]; omega
  · simp only [Option.getD_none]; omega
theorem index_rows (W : ByteArray) : -1 ≤ indexF (fun r : Rwo => r.gname.toList == W.toList) rowsL ∧ indexF (fun r : Rwo => r.gname.toList == W.toList) rowsL < 23 ∧
    (indexF (fun r : Rwo => r.gname.toList == W.toList) rowsL < 1 → opW (ls W) = 0) ∧ (1 ≤ indexF (fun r : Rwo => r.gname.toList == W.toList) rowsL → opW (ls W) = indexF (fun r : Rwo => r.gname.toList == W.toList) rowsL) := by
  have hl := rows_len
  by_cases h : 0 ≤ indexF (fun r : Rwo => r.gname.toList == W.toList) rowsL
  · obtain ⟨h1, h2, _⟩ := indexF_at rwo0 h
    generalize indexF (fun r : Rwo => r.gname.toList == W.toList) rowsL = m at h h1 h2
    rw [beq_ls, beq_iff_eq] at h2
    refine ⟨by omega, by omega, fun h3 => ?_, fun h3 => ?_⟩
    · have e : m = 0 := by omega
      subst e
      rw [← h2]; decide +kernel
    · rw [← h2, (rows_at (op := m) (by omega)).1]; exact opW_name (by omega)
  · have ha : rowsL.any (fun r : Rwo => r.gname.toList == W.toList) = false := by
      rw [← indexF_nonneg]; exact decide_eq_false h
    refine ⟨?_, by omega, fun _ => ?_, fun h3 => absurd h3 (by omega)⟩
    · rcases indexF_bounds (fun r : Rwo => r.gname.toList == W.toList) rowsL with h1 | h1 <;> omega
    · refine opN_zero fun j hj h0 e => ?_
      rw [List.any_eq_false] at ha
      have hm : rowsL.getD j rwo0 ∈ rowsL := by rw [List.getD_eq_getElem?_getD, List.getElem?_eq_getElem (by omega)]; exact List.getElem_mem _
      apply ha _ hm
      rw [beq_ls, beq_iff_eq, ← e]
      have := (rows_at (op := (j : Int)) (by omega)).1
      rw [Int.toNat_natCast] at this; rw [this]
theorem opN_step (w : List UInt8) {k : Int} (h : 1 ≤ k) : opN w (k + 1).toNat = if ls (nameL.getD k.toNat ByteArray.empty) = w then k else opN w k.toNat := by
  rw [show (k + 1).toNat = k.toNat + 1 by omega, opN]
  by_cases e : ls (nameL.getD k.toNat ByteArray.empty) = w
  · rw [if_pos ⟨by omega, e⟩, if_pos e, Int.toNat_of_nonneg (by omega)]
  · rw [if_neg (fun h => e h.2), if_neg e]
theorem goW_step {f : UInt8 → List UInt8 → Option Int} {cs : List UInt8} {ws : List (List UInt8)} {i : Ins} {k : Nat} (hk : k < cs.length) :
    goW f (cs.drop k) (ws.drop (k + 1)) i = match f (cs.getD k 0) (ws.getD (k + 1) []) with
      | none => none
      | some n => goW f (cs.drop (k + 1)) (ws.drop (k + 2)) (setI i ((cs.getD k 0).toNat : Int) n) := by
  rw [List.drop_eq_getElem_cons hk, goW, List.getD_eq_getElem?_getD, List.getElem?_eq_getElem hk, Option.getD_some]
  have e1 : (ws.drop (k + 1)).headD [] = ws.getD (k + 1) [] := by
    rw [List.headD_eq_head?_getD, List.head?_drop, List.getD_eq_getElem?_getD]
  have e2 : (ws.drop (k + 1)).tail = ws.drop (k + 2) := by rw [List.tail_drop]
  rw [e1, e2] <;> rfl
/-- the state of a reader: what the rest of the fields gives -/
def atW (f : UInt8 → List UInt8 → Option Int) (s : ByteArray) (op : Int) (k : Int) (i : Ins) : Prop :=
  readI f (ls s) = goW f ((ls (fieldsF op)).drop k.toNat) ((splitOn 32 (ls s)).drop (k.toNat + 1)) i
theorem atW_start {f : UInt8 → List UInt8 → Option Int} {s : ByteArray} {op : Int} {w0 : ByteArray} (h0 : (piecesB 32 s).getD 0 ByteArray.empty = w0) (h1 : opW (ls w0) = op) (h2 : 1 ≤ op) (h3 : ((piecesB 32 s).length : Int) = 1 + ((fieldsF op).size : Int)) : atW f s op 0 ⟨op, 0, 0, 0, 0⟩ := by
  have hp := pieces_len 32 s
  have hne := splitOn_ne 32 (ls s)
  have e0 : ls w0 = (splitOn 32 (ls s)).headD [] := by
    rw [← h0, piecesB_getD 32 s 0 (List.length_pos_iff.2 hne)]
    cases splitOn 32 (ls s) with
    | nil => rfl
    | cons a b => rfl
  rw [e0] at h1
  unfold atW
  rw [readI_yes (by omega) (by rw [h1]; omega), h1]; simp
theorem readI_not {f : UInt8 → List UInt8 → Option Int} {s : ByteArray} {w0 : ByteArray} (h0 : (piecesB 32 s).getD 0 ByteArray.empty = w0) (h : opW (ls w0) < 1 ∨ ((piecesB 32 s).length : Int) ≠ 1 + ((fieldsF (opW (ls w0))).size : Int)) : readI f (ls s) = none := by
  have hp := pieces_len 32 s
  have hne := splitOn_ne 32 (ls s)
  have e0 : ls w0 = (splitOn 32 (ls s)).headD [] := by
    rw [← h0, piecesB_getD 32 s 0 (List.length_pos_iff.2 hne)]
    cases splitOn 32 (ls s) with
    | nil => rfl
    | cons a b => rfl
  rw [e0] at h
  unfold readI; rw [if_pos (by rcases h with h | h; left; exact h; right; omega)]
theorem atW_none {f : UInt8 → List UInt8 → Option Int} {s w : ByteArray} {op k : Int} {i : Ins} (h : atW f s op k i) (h0 : 0 ≤ k) (hk : k < ((fieldsF op).size : Int)) (hw : w = (piecesB 32 s).getD (k + 1).toNat ByteArray.empty) (hp : ((piecesB 32 s).length : Int) = 1 + ((fieldsF op).size : Int))
    (hf : f ((ls (fieldsF op)).getD k.toNat 0) (ls w) = none) : readI f (ls s) = none := by
  have hl := ls_length (fieldsF op); have hpl := pieces_len 32 s
  rw [hw, piecesB_getD 32 s _ (by omega), show (k + 1).toNat = k.toNat + 1 by omega] at hf
  unfold atW at h
  rw [h, goW_step (by omega), hf]
theorem atW_next {f : UInt8 → List UInt8 → Option Int} {s w : ByteArray} {op k n : Int} {i : Ins} (h : atW f s op k i) (h0 : 0 ≤ k) (hk : k < ((fieldsF op).size : Int)) (hw : w = (piecesB 32 s).getD (k + 1).toNat ByteArray.empty) (hp : ((piecesB 32 s).length : Int) = 1 + ((fieldsF op).size : Int))
    (hf : f ((ls (fieldsF op)).getD k.toNat 0) (ls w) = some n) : atW f s op (k + 1) (setI i (byteAt (fieldsF op) k.toNat) n) := by
  have hl := ls_length (fieldsF op); have hpl := pieces_len 32 s
  rw [hw, piecesB_getD 32 s _ (by omega), show (k + 1).toNat = k.toNat + 1 by omega] at hf
  unfold atW at h ⊢
  rw [h, goW_step (by omega), hf, byteAt_ls, show (k + 1).toNat = k.toNat + 1 by omega]
theorem atW_end {f : UInt8 → List UInt8 → Option Int} {s : ByteArray} {op k : Int} {i : Ins} (h : atW f s op k i) (hk : k = ((fieldsF op).size : Int)) : readI f (ls s) = some i := by
  unfold atW at h
  rw [h, List.drop_eq_nil_of_le (by rw [ls_length]; omega)]; rfl
theorem set_val {i : Ins} {c n : Int} : (c = 65 → setI i c n = { i with gA := n }) ∧ (c = 66 → setI i c n = { i with gB := n }) ∧ (c = 67 → setI i c n = { i with gC := n }) ∧ (c ≠ 65 → c ≠ 66 → c ≠ 67 → setI i c n = { i with gK := n }) := by
  unfold setI
  refine ⟨fun h => by rw [if_pos h], fun h => by rw [if_neg (by omega), if_pos h], fun h => by rw [if_neg (by omega), if_neg (by omega), if_pos h], fun h1 h2 h3 => by rw [if_neg h1, if_neg h2, if_neg h3]⟩
theorem byte_dec {F : ByteArray} {k : Nat} : ((ls F).getD k 0 = 75) ↔ byteAt F k = 75 := (byte_eq (c := 75) (by decide)).symm
theorem trim_size (w p : ByteArray) : (⟨(Lib.trimPrefix (ls w) (ls p)).toArray⟩ : ByteArray).size ≤ w.size := by
  rw [← ls_length, ls_mk, ← ls_length w]
  unfold Lib.trimPrefix
  split
  · rw [List.length_drop]; omega
  · exact Nat.le_refl _
theorem mat_k {F w : ByteArray} {k : Nat} (h : byteAt F k = 75) : matW ((ls F).getD k 0) (ls w) = atM (ls w) := by unfold matW; rw [if_pos (byte_dec.2 h)]
theorem mat_r {F w t : ByteArray} {k : Nat} (h : byteAt F k ≠ 75) (ht : t = ⟨(Lib.trimPrefix (ls w) (ls (⟨#[114]⟩ : ByteArray))).toArray⟩) : matW ((ls F).getD k 0) (ls w) = atM (ls t) := by
  unfold matW; rw [if_neg (fun e => h (byte_dec.1 e)), ht, ls_mk, show ls (⟨#[114]⟩ : ByteArray) = [114] from rfl, trim_eq]
theorem at_some {l : List UInt8} (h : (atM l).isSome = true) : atM l = some ((atM l).getD 0) := by
  cases hh : atM l with
  | none => rw [hh] at h; cases h
  | some n => rfl
theorem at_none {l : List UInt8} (h : (atM l).isSome = false) : atM l = none := by
  cases hh : atM l with
  | none => rfl
  | some n => rw [hh] at h; cases h
theorem ref_k {F w : ByteArray} {k : Nat} (h : byteAt F k = 75) : refW ((ls F).getD k 0) (ls w) = if parE w = 0 then some (parX w) else none := by
  have hk := byte_dec.2 h
  unfold refW dW
  rw [if_pos hk]
  have hl := ls_length w
  by_cases he : parE w = 0
  · obtain ⟨p1, p2, p3, p4⟩ := par_facts he
    rw [if_pos he, if_pos ⟨.inl hk, by omega, p2, p3⟩, p4]
  · rw [if_neg he, if_neg]
    intro hc
    exact he (par_zero (s := w) (by have := hc.2.1; omega) hc.2.2.1 hc.2.2.2).2
theorem head_byte114 {w : ByteArray} (h : w.size ≠ 0) : ((ls w).head? = some 114) ↔ byteAt w 0 = 114 := by
  have hb := byte_eq (s := w) (k := 0) (c := 114) (by decide)
  rw [show ((114 : Nat) : Int) = 114 from rfl] at hb
  rw [hb]
  have hl := ls_length w
  cases hw : ls w with
  | nil => rw [hw] at hl; simp at hl; omega
  | cons x r => rw [List.head?_cons, List.getD_cons_zero]; constructor; intro e; rw [Option.some.inj e]; rfl; intro e; rw [e]; rfl
theorem ref_short {F w : ByteArray} {k : Nat} (h : byteAt F k ≠ 75) (h2 : w.size < 2 ∨ byteAt w 0 ≠ 114) : refW ((ls F).getD k 0) (ls w) = none := by
  have hl := ls_length w
  unfold refW
  rw [if_neg]
  intro hc
  rcases hc.1 with h3 | h3
  · exact h (byte_dec.1 h3)
  · rcases h2 with h2 | h2
    · omega
    · exact h2 ((head_byte114 (by omega)).1 h3.2)
theorem ref_r {F w t : ByteArray} {k : Nat} (h : byteAt F k ≠ 75) (h2 : 2 ≤ w.size ∧ byteAt w 0 = 114) (ht : t = w.extract 1 w.size) : refW ((ls F).getD k 0) (ls w) = if parE t = 0 then some (parX t) else none := by
  have hl := ls_length w
  have hk : ¬ (ls F).getD k 0 = 75 := fun e => h (byte_dec.1 e)
  have e1 : ls t = (ls w).tail := by rw [ht, ls_extract, ← hl, List.take_length, List.drop_one]
  have hlt := ls_length t
  unfold refW dW
  rw [if_neg hk, ← e1]
  by_cases he : parE t = 0
  · obtain ⟨p1, p2, p3, p4⟩ := par_facts he
    rw [if_pos he, if_pos ⟨.inr ⟨by omega, (head_byte114 (by omega)).2 h2.2⟩, by omega, p2, p3⟩, p4]
  · rw [if_neg he, if_neg]
    intro hc
    exact he (par_zero (s := t) (by have := hc.2.1; omega) hc.2.2.1 hc.2.2.2).2
/-! the words of a text, cut at blanks -/
def hdL (w : List UInt8) (L : List (List UInt8)) : List (List UInt8) := match L with | [] => [w] | p :: ps => (w ++ p) :: ps
def cutI (s : ByteArray) (out : List ByteArray) (fr i : Int) : Prop := splitOn 32 (ls s) = out.map ls ++ hdL (((ls s).take i.toNat).drop fr.toNat) (splitOn 32 ((ls s).drop i.toNat))
theorem cut_start (s : ByteArray) : cutI s [] 0 0 := by
  unfold cutI
  have hne := splitOn_ne 32 (ls s)
  simp only [Int.toNat_zero, List.take_zero, List.drop_nil, List.drop_zero, List.map_nil, List.nil_append]
  cases h : splitOn 32 (ls s) with
  | nil => exact absurd h hne
  | cons p ps => rfl
theorem hd_nil {L : List (List UInt8)} (h : L ≠ []) : hdL [] L = L := by
  cases L with
  | nil => exact absurd rfl h
  | cons p ps => rfl
theorem drop_byte {s : ByteArray} {i : Int} (h0 : 0 ≤ i) (h : i < (s.size : Int)) : (ls s).drop i.toNat = (ls s).getD i.toNat 0 :: (ls s).drop (i + 1).toNat := by
  have hl := ls_length s
  rw [List.drop_eq_getElem_cons (by omega), List.getD_eq_getElem?_getD, List.getElem?_eq_getElem (by omega), show (i + 1).toNat = i.toNat + 1 by omega]; rfl
theorem cut_blank {s : ByteArray} {out : List ByteArray} {fr i : Int} (h : cutI s out fr i) (h0 : 0 ≤ i) (hi : i < (s.size : Int)) (hf : 0 ≤ fr ∧ fr ≤ i) (hb : byteAt s i.toNat = 32) : cutI s (out ++ [s.extract fr.toNat i.toNat]) (i + 1) (i + 1) := by
  unfold cutI at h ⊢
  have hl := ls_length s
  have e := (byte_eq (c := 32) (by decide)).1 hb
  rw [h, drop_byte h0 hi, e]
  have e2 : splitOn 32 (UInt8.ofNat 32 :: (ls s).drop (i + 1).toNat) = [] :: splitOn 32 ((ls s).drop (i + 1).toNat) := splitOn_hit (a := []) (by simp)
  rw [e2, List.map_append, List.map_singleton, ls_extract, List.drop_eq_nil_of_le (show ((ls s).take (i + 1).toNat).length ≤ (i + 1).toNat by rw [List.length_take]; omega), hd_nil (splitOn_ne _ _), hdL, List.append_nil, List.append_assoc]; rfl
theorem cut_last {s : ByteArray} {out : List ByteArray} {fr i : Int} (h : cutI s out fr i) (hi : i = (s.size : Int)) : piecesB 32 s = out ++ [s.extract fr.toNat i.toNat] := by
  unfold cutI at h
  have hl := ls_length s
  have e : (ls s).drop i.toNat = [] := List.drop_eq_nil_of_le (by omega)
  rw [e, show splitOn 32 [] = [[]] from rfl, hdL, List.append_nil] at h
  unfold piecesB
  rw [h, List.map_append, List.map_map, List.map_singleton, ← ls_extract, mk_ls]
  congr 1
  exact (List.map_congr_left (g := id) (fun x _ => mk_ls x)).trans (List.map_id _)
theorem cut_byte {s : ByteArray} {out : List ByteArray} {fr i : Int} (h : cutI s out fr i) (h0 : 0 ≤ i) (hi : i < (s.size : Int)) (hf : 0 ≤ fr ∧ fr ≤ i) (hb : byteAt s i.toNat ≠ 32) : cutI s out fr (i + 1) := by
  unfold cutI at h ⊢
  have hl := ls_length s
  have e : (ls s).getD i.toNat 0 ≠ 32 := fun e => hb ((byte_eq (c := 32) (by decide)).2 e)
  rw [h, drop_byte h0 hi]
  have e2 : ∀ r, splitOn 32 ((ls s).getD i.toNat 0 :: r) = hdL [(ls s).getD i.toNat 0] (splitOn 32 r) := fun r => by
    have hne := splitOn_ne 32 r
    rw [splitOn, if_neg e]
    cases hr : splitOn 32 r with
    | nil => exact absurd hr hne
    | cons p ps => rfl
  have e3 : ((ls s).take (i + 1).toNat).drop fr.toNat = ((ls s).take i.toNat).drop fr.toNat ++ [(ls s).getD i.toNat 0] := by
    rw [show (i + 1).toNat = i.toNat + 1 by omega, take_one (by omega), List.drop_append_of_le_length (by rw [List.length_take]; omega)]
  rw [e2, e3]
  cases splitOn 32 ((ls s).drop (i + 1).toNat) with
  | nil => simp [hdL]
  | cons p ps => simp [hdL]
theorem fields_byte {op : Int} {k : Nat} (h : k < (fieldsF op).size) : byteAt (fieldsF op) k = 65 ∨ byteAt (fieldsF op) k = 66 ∨ byteAt (fieldsF op) k = 67 ∨ byteAt (fieldsF op) k = 75 := by
  have hl := ls_length (fieldsF op)
  have hm : (ls (fieldsF op)).getD k 0 ∈ ls (fieldsF op) := by rw [List.getD_eq_getElem?_getD, List.getElem?_eq_getElem (by omega)]; exact List.getElem_mem _
  rw [byteAt_ls]
  rcases (fields_ok op).1 _ hm with e | e | e | e <;> rw [e] <;> simp

theorem hb27 : HasBody Tryd.prog 27 := fun _ _ => by kernel_rfl
noncomputable def K27_0 : List Item := adv 6 [] (bodyOf Tryd.f27)
noncomputable def K27_1 : List Item := adv 2 [] (popK K27_0)
set_option maxRecDepth 20000 in
set_option maxHeartbeats 20000000 in
theorem names_any  (w : World) : Ret Tryd.prog 27 #[] w (fun v w' => ∃ b, v = .slice (some ⟨b, 0, none⟩) 23 23 ∧ Sep w [box b (nameL.map Value.string) 9] w') := by
 have S0 := Sep.refl w
 refine Ret.named fun R hR => ?_
 refine Ret.of_J (N := 2) [] Tryd.func27 rfl rfl (Nat.le_of_ble_eq_true (by kernel_rfl)) (by kernel_rfl) ?_
 refine J.run 6 K27_0 [] w (by kernel_rfl) ?_
 refine J.newSlice S0 1 23 [.string ByteArray.empty, .string ⟨#[99, 111, 110, 115, 116]⟩, .string ⟨#[108, 111, 97, 100]⟩, .string ⟨#[115, 116, 111, 114, 101]⟩, .string ⟨#[109, 111, 118, 101]⟩, .string ⟨#[97, 100, 100]⟩, .string ⟨#[115, 117, 98]⟩, .string ⟨#[109, 117, 108]⟩, .string ⟨#[100, 105, 118]⟩, .string ⟨#[110, 101, 103]⟩, .string ⟨#[99, 111, 110, 118, 101, 114, 116]⟩, .string ⟨#[109, 105, 110]⟩, .string ⟨#[109, 97, 120]⟩, .string ⟨#[108, 101, 115, 115]⟩, .string ⟨#[101, 113, 117, 97, 108]⟩, .string ⟨#[98, 101, 108, 111, 119]⟩, .string ⟨#[97, 110, 100]⟩, .string ⟨#[111, 114]⟩, .string ⟨#[110, 111, 116]⟩, .string ⟨#[115, 101, 108, 101, 99, 116]⟩, .string ⟨#[99, 117, 114, 118, 101]⟩, .string ⟨#[109, 97, 112]⟩, .string ⟨#[108, 97, 103]⟩] 9 (by kernel_rfl) ?_
 intro b1 w1 S1
 refine J.run 2 K27_1 [(0, .slice (some ⟨b1, 0, none⟩) 23 23)] w1 (by kernel_rfl) ?_
 refine J.ret Tryd.f27 [.slice (some ⟨b1, 0, none⟩) 23 23] Tryd.func27 ⟨by kernel_rfl, trivial⟩ ?_
 refine hR _ _ ?_
 exact ⟨_, rfl, S1⟩

theorem hb12 : HasBody Tryd.prog 12 := fun _ _ => by kernel_rfl
noncomputable def K12_0 : List Item := adv 2 [] (bodyOf Tryd.f12)
noncomputable def K12_1 : List Item := adv 3 [] (popK K12_0)
noncomputable def K12_2 : List Item := adv 3 [] (rRest K12_1)
noncomputable def K12_3 : List Item := adv 6 [] (popK (popK K12_2))
noncomputable def K12_4 : List Item := adv 1 [] (popK K12_3)
noncomputable def K12_5 : List Item := adv 3 [true] K12_4
noncomputable def K12_6 : List Item := adv 1 [] (popK K12_5)
noncomputable def K12_7 : List Item := adv 6 [] (popK (popK (popK K12_6)))
noncomputable def K12_8 : List Item := adv 1 [] (popK K12_7)
noncomputable def K12_9 : List Item := adv 3 [true] K12_8
noncomputable def K12_10 : List Item := adv 1 [] (popK K12_9)
noncomputable def K12_11 : List Item := adv 6 [] (popK (popK (popK K12_10)))
noncomputable def K12_12 : List Item := adv 1 [] (popK K12_11)
noncomputable def K12_13 : List Item := adv 3 [true] K12_12
noncomputable def K12_14 : List Item := adv 1 [] (popK K12_13)
noncomputable def K12_15 : List Item := adv 7 [] (popK (popK (popK K12_14)))
noncomputable def K12_16 : List Item := adv 7 [false] K12_12
noncomputable def K12_17 : List Item := adv 6 [false] K12_8
noncomputable def K12_18 : List Item := adv 1 [] (popK K12_17)
noncomputable def K12_19 : List Item := adv 3 [true] K12_18
noncomputable def K12_20 : List Item := adv 1 [] (popK K12_19)
noncomputable def K12_21 : List Item := adv 7 [] (popK (popK (popK K12_20)))
noncomputable def K12_22 : List Item := adv 7 [false] K12_18
noncomputable def K12_23 : List Item := adv 6 [false] K12_4
noncomputable def K12_24 : List Item := adv 1 [] (popK K12_23)
noncomputable def K12_25 : List Item := adv 3 [true] K12_24
noncomputable def K12_26 : List Item := adv 1 [] (popK K12_25)
noncomputable def K12_27 : List Item := adv 6 [] (popK (popK (popK K12_26)))
noncomputable def K12_28 : List Item := adv 1 [] (popK K12_27)
noncomputable def K12_29 : List Item := adv 3 [true] K12_28
noncomputable def K12_30 : List Item := adv 1 [] (popK K12_29)
noncomputable def K12_31 : List Item := adv 7 [] (popK (popK (popK K12_30)))
noncomputable def K12_32 : List Item := adv 7 [false] K12_28
noncomputable def K12_33 : List Item := adv 6 [false] K12_24
noncomputable def K12_34 : List Item := adv 1 [] (popK K12_33)
noncomputable def K12_35 : List Item := adv 3 [true] K12_34
noncomputable def K12_36 : List Item := adv 1 [] (popK K12_35)
noncomputable def K12_37 : List Item := adv 7 [] (popK (popK (popK K12_36)))
noncomputable def K12_38 : List Item := adv 7 [false] K12_34
set_option maxRecDepth 20000 in
set_option maxHeartbeats 20000000 in
theorem rtexti_any (i : Ins) (w : World) (hi : insQ w i) (hf : formB i = true) : Ret Tryd.prog 12 #[.agg #[.int .i64 i.gOp, .int .i64 i.gA, .int .i64 i.gB, .int .i64 i.gC, .int .i64 i.gK]] w (fun v w' => v = .string (textI i) ∧ Sep w [] w') := by
 have S0 := Sep.refl w
 refine Ret.named fun R hR => ?_
 refine Ret.of_J (N := 43) [(0, .agg #[.int .i64 i.gOp, .int .i64 i.gA, .int .i64 i.gB, .int .i64 i.gC, .int .i64 i.gK])] Tryd.func12 rfl rfl (Nat.le_of_ble_eq_true (by kernel_rfl)) (by kernel_rfl) ?_
 obtain ⟨q1, q2, q3, q4, q5, _⟩ := id hi
 have hfp := formB_iff.1 hf
 have hszA := itoaB_size (n := i.gA) (by omega)
 have hszB := itoaB_size (n := i.gB) (by omega)
 have hszC := itoaB_size (n := i.gC) (by omega)
 have hszK := itoaB_size (n := i.gK) (by omega)
 have hns := name_size (op := i.gOp) (by omega)
 have hnl_ := name_len
 have hfz := fields_size (op := i.gOp)
 refine J.run 2 K12_0 [(0, .agg #[.int .i64 i.gOp, .int .i64 i.gA, .int .i64 i.gB, .int .i64 i.gC, .int .i64 i.gK])] w (by kernel_rfl) ?_
 refine J.new S0 1 [.int .i64 i.gOp, .int .i64 i.gA, .int .i64 i.gB, .int .i64 i.gC, .int .i64 i.gK] 23 (by kernel_rfl) ?_
 intro b1 w1 S1
 refine J.run 3 K12_1 [(1, .pointer (some ⟨b1, 0, none⟩))] w1 (by kernel_rfl) ?_
 have W1 : ∀ (bd0 : Nat) (w2 : World), Sep w [box bd0 (nameL.map Value.string) 9, box b1 [.int .i64 i.gOp, .int .i64 i.gA, .int .i64 i.gB, .int .i64 i.gC, .int .i64 i.gK] 23] w2 → WA Tryd.prog 12 43 R K12_1 (fun w_ => Sep w [box b1 [.int .i64 i.gOp, .int .i64 i.gA, .int .i64 i.gB, .int .i64 i.gC, .int .i64 i.gK] 23] w_) 0 #[true, true, true, true, true, true, true, true, true, true, true] [(1, .pointer (some ⟨b1, 0, none⟩)), (3, .string (((nameL.getD ((i.gOp).toNat) ByteArray.empty) ++ (⟨#[32, 114]⟩ : ByteArray)) ++ (itoaB i.gA)))] w2 := by
  intro bd0 w2 S2
  refine WA.done (by kernel_rfl) ?_
  refine J.run 0 (rRest K12_1) [(1, .pointer (some ⟨b1, 0, none⟩)), (3, .string (((nameL.getD ((i.gOp).toNat) ByteArray.empty) ++ (⟨#[32, 114]⟩ : ByteArray)) ++ (itoaB i.gA)))] w2 (by kernel_rfl) ?_
  refine J.run 3 K12_2 [(15, .pointer (some ⟨b1, 0, none⟩)), (1, .pointer (some ⟨b1, 0, none⟩)), (3, .string (((nameL.getD ((i.gOp).toNat) ByteArray.empty) ++ (⟨#[32, 114]⟩ : ByteArray)) ++ (itoaB i.gA)))] w2 (by kernel_rfl) ?_
  refine J.ok (OK.ldBox S2 1 16 3 0 (.int .i64 i.gOp) (by kernel_rfl) rfl (by kernel_rfl)) ?_
  refine J.callF 17 19 #[.int .i64 i.gOp] hb19 (by kernel_rfl) (rfields_any i.gOp _ (by omega)) ?_
  rintro _ w3 ⟨rfl, T1⟩
  have S3 : Sep w [box bd0 (nameL.map Value.string) 9, box b1 [.int .i64 i.gOp, .int .i64 i.gA, .int .i64 i.gB, .int .i64 i.gC, .int .i64 i.gK] 23] w3 := S2.trans T1
  clear T1 S2
  have := fields_size (op := i.gOp)
  refine J.run 6 K12_3 [(18, .string (fieldsF i.gOp)), (4, .string (fieldsF i.gOp)), (1, .pointer (some ⟨b1, 0, none⟩)), (3, .string (((nameL.getD ((i.gOp).toNat) ByteArray.empty) ++ (⟨#[32, 114]⟩ : ByteArray)) ++ (itoaB i.gA)))] w3 (by kernel_rfl) ?_
  refine J.callF 19 20 #[.string (fieldsF i.gOp), .int .u8 66] hb20 (by kernel_rfl) (uses_any (fieldsF i.gOp) 66 _ (by omega)) ?_
  rintro _ w4 ⟨rfl, T2⟩
  have S4 : Sep w [box bd0 (nameL.map Value.string) 9, box b1 [.int .i64 i.gOp, .int .i64 i.gA, .int .i64 i.gB, .int .i64 i.gC, .int .i64 i.gK] 23] w4 := S3.trans T2
  clear T2 S3
  refine J.run 1 K12_4 [(19, .bool (hasF (fieldsF i.gOp) 66)), (4, .string (fieldsF i.gOp)), (1, .pointer (some ⟨b1, 0, none⟩)), (3, .string (((nameL.getD ((i.gOp).toNat) ByteArray.empty) ++ (⟨#[32, 114]⟩ : ByteArray)) ++ (itoaB i.gA)))] w4 (by kernel_rfl) ?_
  rcases Bool.eq_false_or_eq_true (hasF (fieldsF i.gOp) 66) with fk1 | fk1
  ·skip
   refine J.head (.bool true) (congrArg Value.bool fk1) ?_
   have fb1 := (has_B (op := i.gOp) (by omega)).1 fk1
   refine J.run 3 K12_5 [(20, .string (((nameL.getD ((i.gOp).toNat) ByteArray.empty) ++ (⟨#[32, 114]⟩ : ByteArray)) ++ (itoaB i.gA))), (4, .string (fieldsF i.gOp)), (1, .pointer (some ⟨b1, 0, none⟩))] w4 (by kernel_rfl) ?_
   refine J.ok (OK.cat 21 (((nameL.getD ((i.gOp).toNat) ByteArray.empty) ++ (⟨#[32, 114]⟩ : ByteArray)) ++ (itoaB i.gA)) (⟨#[32, 114]⟩ : ByteArray) ((((nameL.getD ((i.gOp).toNat) ByteArray.empty) ++ (⟨#[32, 114]⟩ : ByteArray)) ++ (itoaB i.gA)) ++ (⟨#[32, 114]⟩ : ByteArray)) (by kernel_rfl) (by first | (simp only [ByteArray.size_append, lit_size, List.size_toArray, List.length_cons, List.length_nil]; omega)) (rfl)) ?_
   refine J.run 1 K12_6 [(22, .pointer (some ⟨b1, 2, none⟩)), (21, .string ((((nameL.getD ((i.gOp).toNat) ByteArray.empty) ++ (⟨#[32, 114]⟩ : ByteArray)) ++ (itoaB i.gA)) ++ (⟨#[32, 114]⟩ : ByteArray))), (4, .string (fieldsF i.gOp)), (1, .pointer (some ⟨b1, 0, none⟩))] w4 (by kernel_rfl) ?_
   refine J.ok (OK.ldBox S4 1 23 3 2 (.int .i64 i.gB) (by kernel_rfl) rfl (by kernel_rfl)) ?_
   refine J.callF 24 28 #[.int .i64 i.gB] hb28 (by kernel_rfl) (rtext_any i.gB _ (by omega)) ?_
   rintro _ w5 ⟨rfl, T3⟩
   have S5 : Sep w [box bd0 (nameL.map Value.string) 9, box b1 [.int .i64 i.gOp, .int .i64 i.gA, .int .i64 i.gB, .int .i64 i.gC, .int .i64 i.gK] 23] w5 := S4.trans T3
   clear T3 S4
   have := itoaB_size (n := i.gB) (by omega)
   refine J.ok (OK.cat 25 ((((nameL.getD ((i.gOp).toNat) ByteArray.empty) ++ (⟨#[32, 114]⟩ : ByteArray)) ++ (itoaB i.gA)) ++ (⟨#[32, 114]⟩ : ByteArray)) (itoaB i.gB) (((((nameL.getD ((i.gOp).toNat) ByteArray.empty) ++ (⟨#[32, 114]⟩ : ByteArray)) ++ (itoaB i.gA)) ++ (⟨#[32, 114]⟩ : ByteArray)) ++ (itoaB i.gB)) (by kernel_rfl) (by first | (simp only [ByteArray.size_append, lit_size, List.size_toArray, List.length_cons, List.length_nil]; omega)) (rfl)) ?_
   refine J.run 6 K12_7 [(26, .string (fieldsF i.gOp)), (3, .string (((((nameL.getD ((i.gOp).toNat) ByteArray.empty) ++ (⟨#[32, 114]⟩ : ByteArray)) ++ (itoaB i.gA)) ++ (⟨#[32, 114]⟩ : ByteArray)) ++ (itoaB i.gB))), (4, .string (fieldsF i.gOp)), (1, .pointer (some ⟨b1, 0, none⟩))] w5 (by kernel_rfl) ?_
   refine J.callF 27 20 #[.string (fieldsF i.gOp), .int .u8 67] hb20 (by kernel_rfl) (uses_any (fieldsF i.gOp) 67 _ (by omega)) ?_
   rintro _ w6 ⟨rfl, T4⟩
   have S6 : Sep w [box bd0 (nameL.map Value.string) 9, box b1 [.int .i64 i.gOp, .int .i64 i.gA, .int .i64 i.gB, .int .i64 i.gC, .int .i64 i.gK] 23] w6 := S5.trans T4
   clear T4 S5
   refine J.run 1 K12_8 [(27, .bool (hasF (fieldsF i.gOp) 67)), (3, .string (((((nameL.getD ((i.gOp).toNat) ByteArray.empty) ++ (⟨#[32, 114]⟩ : ByteArray)) ++ (itoaB i.gA)) ++ (⟨#[32, 114]⟩ : ByteArray)) ++ (itoaB i.gB))), (4, .string (fieldsF i.gOp)), (1, .pointer (some ⟨b1, 0, none⟩))] w6 (by kernel_rfl) ?_
   rcases Bool.eq_false_or_eq_true (hasF (fieldsF i.gOp) 67) with fk2 | fk2
   ·skip
    refine J.head (.bool true) (congrArg Value.bool fk2) ?_
    have fb2 := (has_C (op := i.gOp) (by omega)).1 fk2
    refine J.run 3 K12_9 [(28, .string (((((nameL.getD ((i.gOp).toNat) ByteArray.empty) ++ (⟨#[32, 114]⟩ : ByteArray)) ++ (itoaB i.gA)) ++ (⟨#[32, 114]⟩ : ByteArray)) ++ (itoaB i.gB))), (4, .string (fieldsF i.gOp)), (1, .pointer (some ⟨b1, 0, none⟩))] w6 (by kernel_rfl) ?_
    refine J.ok (OK.cat 29 (((((nameL.getD ((i.gOp).toNat) ByteArray.empty) ++ (⟨#[32, 114]⟩ : ByteArray)) ++ (itoaB i.gA)) ++ (⟨#[32, 114]⟩ : ByteArray)) ++ (itoaB i.gB)) (⟨#[32, 114]⟩ : ByteArray) ((((((nameL.getD ((i.gOp).toNat) ByteArray.empty) ++ (⟨#[32, 114]⟩ : ByteArray)) ++ (itoaB i.gA)) ++ (⟨#[32, 114]⟩ : ByteArray)) ++ (itoaB i.gB)) ++ (⟨#[32, 114]⟩ : ByteArray)) (by kernel_rfl) (by first | (simp only [ByteArray.size_append, lit_size, List.size_toArray, List.length_cons, List.length_nil]; omega)) (rfl)) ?_
    refine J.run 1 K12_10 [(30, .pointer (some ⟨b1, 3, none⟩)), (29, .string ((((((nameL.getD ((i.gOp).toNat) ByteArray.empty) ++ (⟨#[32, 114]⟩ : ByteArray)) ++ (itoaB i.gA)) ++ (⟨#[32, 114]⟩ : ByteArray)) ++ (itoaB i.gB)) ++ (⟨#[32, 114]⟩ : ByteArray))), (4, .string (fieldsF i.gOp)), (1, .pointer (some ⟨b1, 0, none⟩))] w6 (by kernel_rfl) ?_
    refine J.ok (OK.ldBox S6 1 31 3 3 (.int .i64 i.gC) (by kernel_rfl) rfl (by kernel_rfl)) ?_
    refine J.callF 32 28 #[.int .i64 i.gC] hb28 (by kernel_rfl) (rtext_any i.gC _ (by omega)) ?_
    rintro _ w7 ⟨rfl, T5⟩
    have S7 : Sep w [box bd0 (nameL.map Value.string) 9, box b1 [.int .i64 i.gOp, .int .i64 i.gA, .int .i64 i.gB, .int .i64 i.gC, .int .i64 i.gK] 23] w7 := S6.trans T5
    clear T5 S6
    have := itoaB_size (n := i.gC) (by omega)
    refine J.ok (OK.cat 33 ((((((nameL.getD ((i.gOp).toNat) ByteArray.empty) ++ (⟨#[32, 114]⟩ : ByteArray)) ++ (itoaB i.gA)) ++ (⟨#[32, 114]⟩ : ByteArray)) ++ (itoaB i.gB)) ++ (⟨#[32, 114]⟩ : ByteArray)) (itoaB i.gC) (((((((nameL.getD ((i.gOp).toNat) ByteArray.empty) ++ (⟨#[32, 114]⟩ : ByteArray)) ++ (itoaB i.gA)) ++ (⟨#[32, 114]⟩ : ByteArray)) ++ (itoaB i.gB)) ++ (⟨#[32, 114]⟩ : ByteArray)) ++ (itoaB i.gC)) (by kernel_rfl) (by first | (simp only [ByteArray.size_append, lit_size, List.size_toArray, List.length_cons, List.length_nil]; omega)) (rfl)) ?_
    refine J.run 6 K12_11 [(34, .string (fieldsF i.gOp)), (3, .string (((((((nameL.getD ((i.gOp).toNat) ByteArray.empty) ++ (⟨#[32, 114]⟩ : ByteArray)) ++ (itoaB i.gA)) ++ (⟨#[32, 114]⟩ : ByteArray)) ++ (itoaB i.gB)) ++ (⟨#[32, 114]⟩ : ByteArray)) ++ (itoaB i.gC))), (1, .pointer (some ⟨b1, 0, none⟩))] w7 (by kernel_rfl) ?_
    refine J.callF 35 20 #[.string (fieldsF i.gOp), .int .u8 75] hb20 (by kernel_rfl) (uses_any (fieldsF i.gOp) 75 _ (by omega)) ?_
    rintro _ w8 ⟨rfl, T6⟩
    have S8 : Sep w [box bd0 (nameL.map Value.string) 9, box b1 [.int .i64 i.gOp, .int .i64 i.gA, .int .i64 i.gB, .int .i64 i.gC, .int .i64 i.gK] 23] w8 := S7.trans T6
    clear T6 S7
    refine J.run 1 K12_12 [(35, .bool (hasF (fieldsF i.gOp) 75)), (3, .string (((((((nameL.getD ((i.gOp).toNat) ByteArray.empty) ++ (⟨#[32, 114]⟩ : ByteArray)) ++ (itoaB i.gA)) ++ (⟨#[32, 114]⟩ : ByteArray)) ++ (itoaB i.gB)) ++ (⟨#[32, 114]⟩ : ByteArray)) ++ (itoaB i.gC))), (1, .pointer (some ⟨b1, 0, none⟩))] w8 (by kernel_rfl) ?_
    rcases Bool.eq_false_or_eq_true (hasF (fieldsF i.gOp) 75) with fk3 | fk3
    ·skip
     refine J.head (.bool true) (congrArg Value.bool fk3) ?_
     have fb3 := (has_K (op := i.gOp) (by omega)).1 fk3
     refine J.run 3 K12_13 [(36, .string (((((((nameL.getD ((i.gOp).toNat) ByteArray.empty) ++ (⟨#[32, 114]⟩ : ByteArray)) ++ (itoaB i.gA)) ++ (⟨#[32, 114]⟩ : ByteArray)) ++ (itoaB i.gB)) ++ (⟨#[32, 114]⟩ : ByteArray)) ++ (itoaB i.gC))), (1, .pointer (some ⟨b1, 0, none⟩))] w8 (by kernel_rfl) ?_
     refine J.ok (OK.cat 37 (((((((nameL.getD ((i.gOp).toNat) ByteArray.empty) ++ (⟨#[32, 114]⟩ : ByteArray)) ++ (itoaB i.gA)) ++ (⟨#[32, 114]⟩ : ByteArray)) ++ (itoaB i.gB)) ++ (⟨#[32, 114]⟩ : ByteArray)) ++ (itoaB i.gC)) (⟨#[32]⟩ : ByteArray) ((((((((nameL.getD ((i.gOp).toNat) ByteArray.empty) ++ (⟨#[32, 114]⟩ : ByteArray)) ++ (itoaB i.gA)) ++ (⟨#[32, 114]⟩ : ByteArray)) ++ (itoaB i.gB)) ++ (⟨#[32, 114]⟩ : ByteArray)) ++ (itoaB i.gC)) ++ (⟨#[32]⟩ : ByteArray)) (by kernel_rfl) (by first | (simp only [ByteArray.size_append, lit_size, List.size_toArray, List.length_cons, List.length_nil]; omega)) (rfl)) ?_
     refine J.run 1 K12_14 [(38, .pointer (some ⟨b1, 4, none⟩)), (37, .string ((((((((nameL.getD ((i.gOp).toNat) ByteArray.empty) ++ (⟨#[32, 114]⟩ : ByteArray)) ++ (itoaB i.gA)) ++ (⟨#[32, 114]⟩ : ByteArray)) ++ (itoaB i.gB)) ++ (⟨#[32, 114]⟩ : ByteArray)) ++ (itoaB i.gC)) ++ (⟨#[32]⟩ : ByteArray)))] w8 (by kernel_rfl) ?_
     refine J.ok (OK.ldBox S8 1 39 3 4 (.int .i64 i.gK) (by kernel_rfl) rfl (by kernel_rfl)) ?_
     refine J.callF 40 28 #[.int .i64 i.gK] hb28 (by kernel_rfl) (rtext_any i.gK _ (by omega)) ?_
     rintro _ w9 ⟨rfl, T7⟩
     have S9 : Sep w [box bd0 (nameL.map Value.string) 9, box b1 [.int .i64 i.gOp, .int .i64 i.gA, .int .i64 i.gB, .int .i64 i.gC, .int .i64 i.gK] 23] w9 := S8.trans T7
     clear T7 S8
     have := itoaB_size (n := i.gK) (by omega)
     refine J.ok (OK.cat 41 ((((((((nameL.getD ((i.gOp).toNat) ByteArray.empty) ++ (⟨#[32, 114]⟩ : ByteArray)) ++ (itoaB i.gA)) ++ (⟨#[32, 114]⟩ : ByteArray)) ++ (itoaB i.gB)) ++ (⟨#[32, 114]⟩ : ByteArray)) ++ (itoaB i.gC)) ++ (⟨#[32]⟩ : ByteArray)) (itoaB i.gK) (((((((((nameL.getD ((i.gOp).toNat) ByteArray.empty) ++ (⟨#[32, 114]⟩ : ByteArray)) ++ (itoaB i.gA)) ++ (⟨#[32, 114]⟩ : ByteArray)) ++ (itoaB i.gB)) ++ (⟨#[32, 114]⟩ : ByteArray)) ++ (itoaB i.gC)) ++ (⟨#[32]⟩ : ByteArray)) ++ (itoaB i.gK)) (by kernel_rfl) (by first | (simp only [ByteArray.size_append, lit_size, List.size_toArray, List.length_cons, List.length_nil]; omega)) (rfl)) ?_
     refine J.run 7 K12_15 [(2, .string (((((((((nameL.getD ((i.gOp).toNat) ByteArray.empty) ++ (⟨#[32, 114]⟩ : ByteArray)) ++ (itoaB i.gA)) ++ (⟨#[32, 114]⟩ : ByteArray)) ++ (itoaB i.gB)) ++ (⟨#[32, 114]⟩ : ByteArray)) ++ (itoaB i.gC)) ++ (⟨#[32]⟩ : ByteArray)) ++ (itoaB i.gK)))] w9 (by kernel_rfl) ?_
     refine J.ret Tryd.f12 [.string (((((((((nameL.getD ((i.gOp).toNat) ByteArray.empty) ++ (⟨#[32, 114]⟩ : ByteArray)) ++ (itoaB i.gA)) ++ (⟨#[32, 114]⟩ : ByteArray)) ++ (itoaB i.gB)) ++ (⟨#[32, 114]⟩ : ByteArray)) ++ (itoaB i.gC)) ++ (⟨#[32]⟩ : ByteArray)) ++ (itoaB i.gK))] Tryd.func12 ⟨by kernel_rfl, trivial⟩ ?_
     refine hR _ _ ?_
     exact ⟨congrArg Value.string (rtext_done hf fk1 fk2 fk3 (by simp [ls_itoaB])), S9.nil⟩
    ·skip
     refine J.head (.bool false) (congrArg Value.bool fk3) ?_
     have fb4 := mt (has_K (op := i.gOp) (by omega)).2 (by rw [fk3]; decide)
     refine J.run 7 K12_16 [(2, .string (((((((nameL.getD ((i.gOp).toNat) ByteArray.empty) ++ (⟨#[32, 114]⟩ : ByteArray)) ++ (itoaB i.gA)) ++ (⟨#[32, 114]⟩ : ByteArray)) ++ (itoaB i.gB)) ++ (⟨#[32, 114]⟩ : ByteArray)) ++ (itoaB i.gC)))] w8 (by kernel_rfl) ?_
     refine J.ret Tryd.f12 [.string (((((((nameL.getD ((i.gOp).toNat) ByteArray.empty) ++ (⟨#[32, 114]⟩ : ByteArray)) ++ (itoaB i.gA)) ++ (⟨#[32, 114]⟩ : ByteArray)) ++ (itoaB i.gB)) ++ (⟨#[32, 114]⟩ : ByteArray)) ++ (itoaB i.gC))] Tryd.func12 ⟨by kernel_rfl, trivial⟩ ?_
     refine hR _ _ ?_
     exact ⟨congrArg Value.string (rtext_done hf fk1 fk2 fk3 (by simp [ls_itoaB])), S8.nil⟩
   ·skip
    refine J.head (.bool false) (congrArg Value.bool fk2) ?_
    have fb5 := mt (has_C (op := i.gOp) (by omega)).2 (by rw [fk2]; decide)
    refine J.run 6 K12_17 [(34, .string (fieldsF i.gOp)), (3, .string (((((nameL.getD ((i.gOp).toNat) ByteArray.empty) ++ (⟨#[32, 114]⟩ : ByteArray)) ++ (itoaB i.gA)) ++ (⟨#[32, 114]⟩ : ByteArray)) ++ (itoaB i.gB))), (1, .pointer (some ⟨b1, 0, none⟩))] w6 (by kernel_rfl) ?_
    refine J.callF 35 20 #[.string (fieldsF i.gOp), .int .u8 75] hb20 (by kernel_rfl) (uses_any (fieldsF i.gOp) 75 _ (by omega)) ?_
    rintro _ w10 ⟨rfl, T8⟩
    have S10 : Sep w [box bd0 (nameL.map Value.string) 9, box b1 [.int .i64 i.gOp, .int .i64 i.gA, .int .i64 i.gB, .int .i64 i.gC, .int .i64 i.gK] 23] w10 := S6.trans T8
    clear T8 S6
    refine J.run 1 K12_18 [(35, .bool (hasF (fieldsF i.gOp) 75)), (3, .string (((((nameL.getD ((i.gOp).toNat) ByteArray.empty) ++ (⟨#[32, 114]⟩ : ByteArray)) ++ (itoaB i.gA)) ++ (⟨#[32, 114]⟩ : ByteArray)) ++ (itoaB i.gB))), (1, .pointer (some ⟨b1, 0, none⟩))] w10 (by kernel_rfl) ?_
    rcases Bool.eq_false_or_eq_true (hasF (fieldsF i.gOp) 75) with fk4 | fk4
    ·skip
     refine J.head (.bool true) (congrArg Value.bool fk4) ?_
     have fb6 := (has_K (op := i.gOp) (by omega)).1 fk4
     refine J.run 3 K12_19 [(36, .string (((((nameL.getD ((i.gOp).toNat) ByteArray.empty) ++ (⟨#[32, 114]⟩ : ByteArray)) ++ (itoaB i.gA)) ++ (⟨#[32, 114]⟩ : ByteArray)) ++ (itoaB i.gB))), (1, .pointer (some ⟨b1, 0, none⟩))] w10 (by kernel_rfl) ?_
     refine J.ok (OK.cat 37 (((((nameL.getD ((i.gOp).toNat) ByteArray.empty) ++ (⟨#[32, 114]⟩ : ByteArray)) ++ (itoaB i.gA)) ++ (⟨#[32, 114]⟩ : ByteArray)) ++ (itoaB i.gB)) (⟨#[32]⟩ : ByteArray) ((((((nameL.getD ((i.gOp).toNat) ByteArray.empty) ++ (⟨#[32, 114]⟩ : ByteArray)) ++ (itoaB i.gA)) ++ (⟨#[32, 114]⟩ : ByteArray)) ++ (itoaB i.gB)) ++ (⟨#[32]⟩ : ByteArray)) (by kernel_rfl) (by first | (simp only [ByteArray.size_append, lit_size, List.size_toArray, List.length_cons, List.length_nil]; omega)) (rfl)) ?_
     refine J.run 1 K12_20 [(38, .pointer (some ⟨b1, 4, none⟩)), (37, .string ((((((nameL.getD ((i.gOp).toNat) ByteArray.empty) ++ (⟨#[32, 114]⟩ : ByteArray)) ++ (itoaB i.gA)) ++ (⟨#[32, 114]⟩ : ByteArray)) ++ (itoaB i.gB)) ++ (⟨#[32]⟩ : ByteArray)))] w10 (by kernel_rfl) ?_
     refine J.ok (OK.ldBox S10 1 39 3 4 (.int .i64 i.gK) (by kernel_rfl) rfl (by kernel_rfl)) ?_
     refine J.callF 40 28 #[.int .i64 i.gK] hb28 (by kernel_rfl) (rtext_any i.gK _ (by omega)) ?_
     rintro _ w11 ⟨rfl, T9⟩
     have S11 : Sep w [box bd0 (nameL.map Value.string) 9, box b1 [.int .i64 i.gOp, .int .i64 i.gA, .int .i64 i.gB, .int .i64 i.gC, .int .i64 i.gK] 23] w11 := S10.trans T9
     clear T9 S10
     have := itoaB_size (n := i.gK) (by omega)
     refine J.ok (OK.cat 41 ((((((nameL.getD ((i.gOp).toNat) ByteArray.empty) ++ (⟨#[32, 114]⟩ : ByteArray)) ++ (itoaB i.gA)) ++ (⟨#[32, 114]⟩ : ByteArray)) ++ (itoaB i.gB)) ++ (⟨#[32]⟩ : ByteArray)) (itoaB i.gK) (((((((nameL.getD ((i.gOp).toNat) ByteArray.empty) ++ (⟨#[32, 114]⟩ : ByteArray)) ++ (itoaB i.gA)) ++ (⟨#[32, 114]⟩ : ByteArray)) ++ (itoaB i.gB)) ++ (⟨#[32]⟩ : ByteArray)) ++ (itoaB i.gK)) (by kernel_rfl) (by first | (simp only [ByteArray.size_append, lit_size, List.size_toArray, List.length_cons, List.length_nil]; omega)) (rfl)) ?_
     refine J.run 7 K12_21 [(2, .string (((((((nameL.getD ((i.gOp).toNat) ByteArray.empty) ++ (⟨#[32, 114]⟩ : ByteArray)) ++ (itoaB i.gA)) ++ (⟨#[32, 114]⟩ : ByteArray)) ++ (itoaB i.gB)) ++ (⟨#[32]⟩ : ByteArray)) ++ (itoaB i.gK)))] w11 (by kernel_rfl) ?_
     refine J.ret Tryd.f12 [.string (((((((nameL.getD ((i.gOp).toNat) ByteArray.empty) ++ (⟨#[32, 114]⟩ : ByteArray)) ++ (itoaB i.gA)) ++ (⟨#[32, 114]⟩ : ByteArray)) ++ (itoaB i.gB)) ++ (⟨#[32]⟩ : ByteArray)) ++ (itoaB i.gK))] Tryd.func12 ⟨by kernel_rfl, trivial⟩ ?_
     refine hR _ _ ?_
     exact ⟨congrArg Value.string (rtext_done hf fk1 fk2 fk4 (by simp [ls_itoaB])), S11.nil⟩
    ·skip
     refine J.head (.bool false) (congrArg Value.bool fk4) ?_
     have fb7 := mt (has_K (op := i.gOp) (by omega)).2 (by rw [fk4]; decide)
     refine J.run 7 K12_22 [(2, .string (((((nameL.getD ((i.gOp).toNat) ByteArray.empty) ++ (⟨#[32, 114]⟩ : ByteArray)) ++ (itoaB i.gA)) ++ (⟨#[32, 114]⟩ : ByteArray)) ++ (itoaB i.gB)))] w10 (by kernel_rfl) ?_
     refine J.ret Tryd.f12 [.string (((((nameL.getD ((i.gOp).toNat) ByteArray.empty) ++ (⟨#[32, 114]⟩ : ByteArray)) ++ (itoaB i.gA)) ++ (⟨#[32, 114]⟩ : ByteArray)) ++ (itoaB i.gB))] Tryd.func12 ⟨by kernel_rfl, trivial⟩ ?_
     refine hR _ _ ?_
     exact ⟨congrArg Value.string (rtext_done hf fk1 fk2 fk4 (by simp [ls_itoaB])), S10.nil⟩
  ·skip
   refine J.head (.bool false) (congrArg Value.bool fk1) ?_
   have fb8 := mt (has_B (op := i.gOp) (by omega)).2 (by rw [fk1]; decide)
   refine J.run 6 K12_23 [(26, .string (fieldsF i.gOp)), (4, .string (fieldsF i.gOp)), (1, .pointer (some ⟨b1, 0, none⟩)), (3, .string (((nameL.getD ((i.gOp).toNat) ByteArray.empty) ++ (⟨#[32, 114]⟩ : ByteArray)) ++ (itoaB i.gA)))] w4 (by kernel_rfl) ?_
   refine J.callF 27 20 #[.string (fieldsF i.gOp), .int .u8 67] hb20 (by kernel_rfl) (uses_any (fieldsF i.gOp) 67 _ (by omega)) ?_
   rintro _ w12 ⟨rfl, T10⟩
   have S12 : Sep w [box bd0 (nameL.map Value.string) 9, box b1 [.int .i64 i.gOp, .int .i64 i.gA, .int .i64 i.gB, .int .i64 i.gC, .int .i64 i.gK] 23] w12 := S4.trans T10
   clear T10 S4
   refine J.run 1 K12_24 [(27, .bool (hasF (fieldsF i.gOp) 67)), (4, .string (fieldsF i.gOp)), (1, .pointer (some ⟨b1, 0, none⟩)), (3, .string (((nameL.getD ((i.gOp).toNat) ByteArray.empty) ++ (⟨#[32, 114]⟩ : ByteArray)) ++ (itoaB i.gA)))] w12 (by kernel_rfl) ?_
   rcases Bool.eq_false_or_eq_true (hasF (fieldsF i.gOp) 67) with fk5 | fk5
   ·skip
    refine J.head (.bool true) (congrArg Value.bool fk5) ?_
    have fb9 := (has_C (op := i.gOp) (by omega)).1 fk5
    refine J.run 3 K12_25 [(28, .string (((nameL.getD ((i.gOp).toNat) ByteArray.empty) ++ (⟨#[32, 114]⟩ : ByteArray)) ++ (itoaB i.gA))), (4, .string (fieldsF i.gOp)), (1, .pointer (some ⟨b1, 0, none⟩))] w12 (by kernel_rfl) ?_
    refine J.ok (OK.cat 29 (((nameL.getD ((i.gOp).toNat) ByteArray.empty) ++ (⟨#[32, 114]⟩ : ByteArray)) ++ (itoaB i.gA)) (⟨#[32, 114]⟩ : ByteArray) ((((nameL.getD ((i.gOp).toNat) ByteArray.empty) ++ (⟨#[32, 114]⟩ : ByteArray)) ++ (itoaB i.gA)) ++ (⟨#[32, 114]⟩ : ByteArray)) (by kernel_rfl) (by first | (simp only [ByteArray.size_append, lit_size, List.size_toArray, List.length_cons, List.length_nil]; omega)) (rfl)) ?_
    refine J.run 1 K12_26 [(30, .pointer (some ⟨b1, 3, none⟩)), (29, .string ((((nameL.getD ((i.gOp).toNat) ByteArray.empty) ++ (⟨#[32, 114]⟩ : ByteArray)) ++ (itoaB i.gA)) ++ (⟨#[32, 114]⟩ : ByteArray))), (4, .string (fieldsF i.gOp)), (1, .pointer (some ⟨b1, 0, none⟩))] w12 (by kernel_rfl) ?_
    refine J.ok (OK.ldBox S12 1 31 3 3 (.int .i64 i.gC) (by kernel_rfl) rfl (by kernel_rfl)) ?_
    refine J.callF 32 28 #[.int .i64 i.gC] hb28 (by kernel_rfl) (rtext_any i.gC _ (by omega)) ?_
    rintro _ w13 ⟨rfl, T11⟩
    have S13 : Sep w [box bd0 (nameL.map Value.string) 9, box b1 [.int .i64 i.gOp, .int .i64 i.gA, .int .i64 i.gB, .int .i64 i.gC, .int .i64 i.gK] 23] w13 := S12.trans T11
    clear T11 S12
    have := itoaB_size (n := i.gC) (by omega)
    refine J.ok (OK.cat 33 ((((nameL.getD ((i.gOp).toNat) ByteArray.empty) ++ (⟨#[32, 114]⟩ : ByteArray)) ++ (itoaB i.gA)) ++ (⟨#[32, 114]⟩ : ByteArray)) (itoaB i.gC) (((((nameL.getD ((i.gOp).toNat) ByteArray.empty) ++ (⟨#[32, 114]⟩ : ByteArray)) ++ (itoaB i.gA)) ++ (⟨#[32, 114]⟩ : ByteArray)) ++ (itoaB i.gC)) (by kernel_rfl) (by first | (simp only [ByteArray.size_append, lit_size, List.size_toArray, List.length_cons, List.length_nil]; omega)) (rfl)) ?_
    refine J.run 6 K12_27 [(34, .string (fieldsF i.gOp)), (3, .string (((((nameL.getD ((i.gOp).toNat) ByteArray.empty) ++ (⟨#[32, 114]⟩ : ByteArray)) ++ (itoaB i.gA)) ++ (⟨#[32, 114]⟩ : ByteArray)) ++ (itoaB i.gC))), (1, .pointer (some ⟨b1, 0, none⟩))] w13 (by kernel_rfl) ?_
    refine J.callF 35 20 #[.string (fieldsF i.gOp), .int .u8 75] hb20 (by kernel_rfl) (uses_any (fieldsF i.gOp) 75 _ (by omega)) ?_
    rintro _ w14 ⟨rfl, T12⟩
    have S14 : Sep w [box bd0 (nameL.map Value.string) 9, box b1 [.int .i64 i.gOp, .int .i64 i.gA, .int .i64 i.gB, .int .i64 i.gC, .int .i64 i.gK] 23] w14 := S13.trans T12
    clear T12 S13
    refine J.run 1 K12_28 [(35, .bool (hasF (fieldsF i.gOp) 75)), (3, .string (((((nameL.getD ((i.gOp).toNat) ByteArray.empty) ++ (⟨#[32, 114]⟩ : ByteArray)) ++ (itoaB i.gA)) ++ (⟨#[32, 114]⟩ : ByteArray)) ++ (itoaB i.gC))), (1, .pointer (some ⟨b1, 0, none⟩))] w14 (by kernel_rfl) ?_
    rcases Bool.eq_false_or_eq_true (hasF (fieldsF i.gOp) 75) with fk6 | fk6
    ·skip
     refine J.head (.bool true) (congrArg Value.bool fk6) ?_
     have fb10 := (has_K (op := i.gOp) (by omega)).1 fk6
     refine J.run 3 K12_29 [(36, .string (((((nameL.getD ((i.gOp).toNat) ByteArray.empty) ++ (⟨#[32, 114]⟩ : ByteArray)) ++ (itoaB i.gA)) ++ (⟨#[32, 114]⟩ : ByteArray)) ++ (itoaB i.gC))), (1, .pointer (some ⟨b1, 0, none⟩))] w14 (by kernel_rfl) ?_
     refine J.ok (OK.cat 37 (((((nameL.getD ((i.gOp).toNat) ByteArray.empty) ++ (⟨#[32, 114]⟩ : ByteArray)) ++ (itoaB i.gA)) ++ (⟨#[32, 114]⟩ : ByteArray)) ++ (itoaB i.gC)) (⟨#[32]⟩ : ByteArray) ((((((nameL.getD ((i.gOp).toNat) ByteArray.empty) ++ (⟨#[32, 114]⟩ : ByteArray)) ++ (itoaB i.gA)) ++ (⟨#[32, 114]⟩ : ByteArray)) ++ (itoaB i.gC)) ++ (⟨#[32]⟩ : ByteArray)) (by kernel_rfl) (by first | (simp only [ByteArray.size_append, lit_size, List.size_toArray, List.length_cons, List.length_nil]; omega)) (rfl)) ?_
     refine J.run 1 K12_30 [(38, .pointer (some ⟨b1, 4, none⟩)), (37, .string ((((((nameL.getD ((i.gOp).toNat) ByteArray.empty) ++ (⟨#[32, 114]⟩ : ByteArray)) ++ (itoaB i.gA)) ++ (⟨#[32, 114]⟩ : ByteArray)) ++ (itoaB i.gC)) ++ (⟨#[32]⟩ : ByteArray)))] w14 (by kernel_rfl) ?_
     refine J.ok (OK.ldBox S14 1 39 3 4 (.int .i64 i.gK) (by kernel_rfl) rfl (by kernel_rfl)) ?_
     refine J.callF 40 28 #[.int .i64 i.gK] hb28 (by kernel_rfl) (rtext_any i.gK _ (by omega)) ?_
     rintro _ w15 ⟨rfl, T13⟩
     have S15 : Sep w [box bd0 (nameL.map Value.string) 9, box b1 [.int .i64 i.gOp, .int .i64 i.gA, .int .i64 i.gB, .int .i64 i.gC, .int .i64 i.gK] 23] w15 := S14.trans T13
     clear T13 S14
     have := itoaB_size (n := i.gK) (by omega)
     refine J.ok (OK.cat 41 ((((((nameL.getD ((i.gOp).toNat) ByteArray.empty) ++ (⟨#[32, 114]⟩ : ByteArray)) ++ (itoaB i.gA)) ++ (⟨#[32, 114]⟩ : ByteArray)) ++ (itoaB i.gC)) ++ (⟨#[32]⟩ : ByteArray)) (itoaB i.gK) (((((((nameL.getD ((i.gOp).toNat) ByteArray.empty) ++ (⟨#[32, 114]⟩ : ByteArray)) ++ (itoaB i.gA)) ++ (⟨#[32, 114]⟩ : ByteArray)) ++ (itoaB i.gC)) ++ (⟨#[32]⟩ : ByteArray)) ++ (itoaB i.gK)) (by kernel_rfl) (by first | (simp only [ByteArray.size_append, lit_size, List.size_toArray, List.length_cons, List.length_nil]; omega)) (rfl)) ?_
     refine J.run 7 K12_31 [(2, .string (((((((nameL.getD ((i.gOp).toNat) ByteArray.empty) ++ (⟨#[32, 114]⟩ : ByteArray)) ++ (itoaB i.gA)) ++ (⟨#[32, 114]⟩ : ByteArray)) ++ (itoaB i.gC)) ++ (⟨#[32]⟩ : ByteArray)) ++ (itoaB i.gK)))] w15 (by kernel_rfl) ?_
     refine J.ret Tryd.f12 [.string (((((((nameL.getD ((i.gOp).toNat) ByteArray.empty) ++ (⟨#[32, 114]⟩ : ByteArray)) ++ (itoaB i.gA)) ++ (⟨#[32, 114]⟩ : ByteArray)) ++ (itoaB i.gC)) ++ (⟨#[32]⟩ : ByteArray)) ++ (itoaB i.gK))] Tryd.func12 ⟨by kernel_rfl, trivial⟩ ?_
     refine hR _ _ ?_
     exact ⟨congrArg Value.string (rtext_done hf fk1 fk5 fk6 (by simp [ls_itoaB])), S15.nil⟩
    ·skip
     refine J.head (.bool false) (congrArg Value.bool fk6) ?_
     have fb11 := mt (has_K (op := i.gOp) (by omega)).2 (by rw [fk6]; decide)
     refine J.run 7 K12_32 [(2, .string (((((nameL.getD ((i.gOp).toNat) ByteArray.empty) ++ (⟨#[32, 114]⟩ : ByteArray)) ++ (itoaB i.gA)) ++ (⟨#[32, 114]⟩ : ByteArray)) ++ (itoaB i.gC)))] w14 (by kernel_rfl) ?_
     refine J.ret Tryd.f12 [.string (((((nameL.getD ((i.gOp).toNat) ByteArray.empty) ++ (⟨#[32, 114]⟩ : ByteArray)) ++ (itoaB i.gA)) ++ (⟨#[32, 114]⟩ : ByteArray)) ++ (itoaB i.gC))] Tryd.func12 ⟨by kernel_rfl, trivial⟩ ?_
     refine hR _ _ ?_
     exact ⟨congrArg Value.string (rtext_done hf fk1 fk5 fk6 (by simp [ls_itoaB])), S14.nil⟩
   ·skip
    refine J.head (.bool false) (congrArg Value.bool fk5) ?_
    have fb12 := mt (has_C (op := i.gOp) (by omega)).2 (by rw [fk5]; decide)
    refine J.run 6 K12_33 [(34, .string (fieldsF i.gOp)), (1, .pointer (some ⟨b1, 0, none⟩)), (3, .string (((nameL.getD ((i.gOp).toNat) ByteArray.empty) ++ (⟨#[32, 114]⟩ : ByteArray)) ++ (itoaB i.gA)))] w12 (by kernel_rfl) ?_
    refine J.callF 35 20 #[.string (fieldsF i.gOp), .int .u8 75] hb20 (by kernel_rfl) (uses_any (fieldsF i.gOp) 75 _ (by omega)) ?_
    rintro _ w16 ⟨rfl, T14⟩
    have S16 : Sep w [box bd0 (nameL.map Value.string) 9, box b1 [.int .i64 i.gOp, .int .i64 i.gA, .int .i64 i.gB, .int .i64 i.gC, .int .i64 i.gK] 23] w16 := S12.trans T14
    clear T14 S12
    refine J.run 1 K12_34 [(35, .bool (hasF (fieldsF i.gOp) 75)), (1, .pointer (some ⟨b1, 0, none⟩)), (3, .string (((nameL.getD ((i.gOp).toNat) ByteArray.empty) ++ (⟨#[32, 114]⟩ : ByteArray)) ++ (itoaB i.gA)))] w16 (by kernel_rfl) ?_
    rcases Bool.eq_false_or_eq_true (hasF (fieldsF i.gOp) 75) with fk7 | fk7
    ·skip
     refine J.head (.bool true) (congrArg Value.bool fk7) ?_
     have fb13 := (has_K (op := i.gOp) (by omega)).1 fk7
     refine J.run 3 K12_35 [(36, .string (((nameL.getD ((i.gOp).toNat) ByteArray.empty) ++ (⟨#[32, 114]⟩ : ByteArray)) ++ (itoaB i.gA))), (1, .pointer (some ⟨b1, 0, none⟩))] w16 (by kernel_rfl) ?_
     refine J.ok (OK.cat 37 (((nameL.getD ((i.gOp).toNat) ByteArray.empty) ++ (⟨#[32, 114]⟩ : ByteArray)) ++ (itoaB i.gA)) (⟨#[32]⟩ : ByteArray) ((((nameL.getD ((i.gOp).toNat) ByteArray.empty) ++ (⟨#[32, 114]⟩ : ByteArray)) ++ (itoaB i.gA)) ++ (⟨#[32]⟩ : ByteArray)) (by kernel_rfl) (by first | (simp only [ByteArray.size_append, lit_size, List.size_toArray, List.length_cons, List.length_nil]; omega)) (rfl)) ?_
     refine J.run 1 K12_36 [(38, .pointer (some ⟨b1, 4, none⟩)), (37, .string ((((nameL.getD ((i.gOp).toNat) ByteArray.empty) ++ (⟨#[32, 114]⟩ : ByteArray)) ++ (itoaB i.gA)) ++ (⟨#[32]⟩ : ByteArray)))] w16 (by kernel_rfl) ?_
     refine J.ok (OK.ldBox S16 1 39 3 4 (.int .i64 i.gK) (by kernel_rfl) rfl (by kernel_rfl)) ?_
     refine J.callF 40 28 #[.int .i64 i.gK] hb28 (by kernel_rfl) (rtext_any i.gK _ (by omega)) ?_
     rintro _ w17 ⟨rfl, T15⟩
     have S17 : Sep w [box bd0 (nameL.map Value.string) 9, box b1 [.int .i64 i.gOp, .int .i64 i.gA, .int .i64 i.gB, .int .i64 i.gC, .int .i64 i.gK] 23] w17 := S16.trans T15
     clear T15 S16
     have := itoaB_size (n := i.gK) (by omega)
     refine J.ok (OK.cat 41 ((((nameL.getD ((i.gOp).toNat) ByteArray.empty) ++ (⟨#[32, 114]⟩ : ByteArray)) ++ (itoaB i.gA)) ++ (⟨#[32]⟩ : ByteArray)) (itoaB i.gK) (((((nameL.getD ((i.gOp).toNat) ByteArray.empty) ++ (⟨#[32, 114]⟩ : ByteArray)) ++ (itoaB i.gA)) ++ (⟨#[32]⟩ : ByteArray)) ++ (itoaB i.gK)) (by kernel_rfl) (by first | (simp only [ByteArray.size_append, lit_size, List.size_toArray, List.length_cons, List.length_nil]; omega)) (rfl)) ?_
     refine J.run 7 K12_37 [(2, .string (((((nameL.getD ((i.gOp).toNat) ByteArray.empty) ++ (⟨#[32, 114]⟩ : ByteArray)) ++ (itoaB i.gA)) ++ (⟨#[32]⟩ : ByteArray)) ++ (itoaB i.gK)))] w17 (by kernel_rfl) ?_
     refine J.ret Tryd.f12 [.string (((((nameL.getD ((i.gOp).toNat) ByteArray.empty) ++ (⟨#[32, 114]⟩ : ByteArray)) ++ (itoaB i.gA)) ++ (⟨#[32]⟩ : ByteArray)) ++ (itoaB i.gK))] Tryd.func12 ⟨by kernel_rfl, trivial⟩ ?_
     refine hR _ _ ?_
     exact ⟨congrArg Value.string (rtext_done hf fk1 fk5 fk7 (by simp [ls_itoaB])), S17.nil⟩
    ·skip
     refine J.head (.bool false) (congrArg Value.bool fk7) ?_
     have fb14 := mt (has_K (op := i.gOp) (by omega)).2 (by rw [fk7]; decide)
     refine J.run 7 K12_38 [(2, .string (((nameL.getD ((i.gOp).toNat) ByteArray.empty) ++ (⟨#[32, 114]⟩ : ByteArray)) ++ (itoaB i.gA)))] w16 (by kernel_rfl) ?_
     refine J.ret Tryd.f12 [.string (((nameL.getD ((i.gOp).toNat) ByteArray.empty) ++ (⟨#[32, 114]⟩ : ByteArray)) ++ (itoaB i.gA))] Tryd.func12 ⟨by kernel_rfl, trivial⟩ ?_
     refine hR _ _ ?_
     exact ⟨congrArg Value.string (rtext_done hf fk1 fk5 fk7 (by simp [ls_itoaB])), S16.nil⟩
 have W2 : ∀ (bd0 : Nat) (w18 : World), Sep w [box bd0 (nameL.map Value.string) 9, box b1 [.int .i64 i.gOp, .int .i64 i.gA, .int .i64 i.gB, .int .i64 i.gC, .int .i64 i.gK] 23] w18 → WA Tryd.prog 12 43 R K12_1 (fun w_ => Sep w [box b1 [.int .i64 i.gOp, .int .i64 i.gA, .int .i64 i.gB, .int .i64 i.gC, .int .i64 i.gK] 23] w_) 3 #[true, true, true, true, true, true, true, true, false, false, false] [(1, .pointer (some ⟨b1, 0, none⟩)), (10, .string ((nameL.getD ((i.gOp).toNat) ByteArray.empty) ++ (⟨#[32, 114]⟩ : ByteArray))), (12, .int .i64 i.gA)] w18 := by
  intro bd0 w18 S18
  refine WA.all [8] (by kernel_rfl) rfl ⟨?_, trivial⟩
  ·skip
   refine WO.set #[true, true, true, true, true, true, true, true, true, false, false] (by kernel_rfl) ?_
   refine WO.callF 13 28 #[.int .i64 i.gA] hb28 (by kernel_rfl) (rtext_any i.gA _ (by omega)) ?_
   rintro _ w19 ⟨rfl, T16⟩
   have S19 : Sep w [box bd0 (nameL.map Value.string) 9, box b1 [.int .i64 i.gOp, .int .i64 i.gA, .int .i64 i.gB, .int .i64 i.gC, .int .i64 i.gK] 23] w19 := S18.trans T16
   clear T16 S18
   have := itoaB_size (n := i.gA) (by omega)
   refine WB.mk (S19.erase 0) ?_
   refine WA.takeOK 9 #[true, true, true, true, true, true, true, true, true, true, false] (by kernel_rfl) (by kernel_rfl) (by kernel_rfl) (by kernel_rfl) (fun w_ S_ => OK.cat 14 ((nameL.getD ((i.gOp).toNat) ByteArray.empty) ++ (⟨#[32, 114]⟩ : ByteArray)) (itoaB i.gA) (((nameL.getD ((i.gOp).toNat) ByteArray.empty) ++ (⟨#[32, 114]⟩ : ByteArray)) ++ (itoaB i.gA)) (by kernel_rfl) (by first | (simp only [ByteArray.size_append, lit_size, List.size_toArray, List.length_cons, List.length_nil]; omega)) (rfl)) rfl ?_
   refine WA.take 10 3 (.string (((nameL.getD ((i.gOp).toNat) ByteArray.empty) ++ (⟨#[32, 114]⟩ : ByteArray)) ++ (itoaB i.gA))) #[true, true, true, true, true, true, true, true, true, true, true] (by kernel_rfl) (by kernel_rfl) (by kernel_rfl) (fun _ _ => by kernel_rfl) (by kernel_rfl) ?_
   refine WA.weaken (env' := [(1, .pointer (some ⟨b1, 0, none⟩)), (3, .string (((nameL.getD ((i.gOp).toNat) ByteArray.empty) ++ (⟨#[32, 114]⟩ : ByteArray)) ++ (itoaB i.gA)))]) (by kernel_rfl) ?_
   exact W1 bd0 w19 S19
 have W3 : ∀ (bd0 : Nat) (w20 : World), Sep w [box bd0 (nameL.map Value.string) 9, box b1 [.int .i64 i.gOp, .int .i64 i.gA, .int .i64 i.gB, .int .i64 i.gC, .int .i64 i.gK] 23] w20 → WA Tryd.prog 12 43 R K12_1 (fun w_ => Sep w [box b1 [.int .i64 i.gOp, .int .i64 i.gA, .int .i64 i.gB, .int .i64 i.gC, .int .i64 i.gK] 23] w_) 4 #[true, true, true, true, false, false, true, true, true, false, false] [(1, .pointer (some ⟨b1, 0, none⟩)), (8, .pointer (some ⟨bd0, (i.gOp).toNat, none⟩)), (13, .string (itoaB i.gA))] w20 := by
  intro bd0 w20 S20
  refine WA.all [4] (by kernel_rfl) rfl ⟨?_, trivial⟩
  ·skip
   refine WO.set #[true, true, true, true, true, false, true, true, true, false, false] (by kernel_rfl) ?_
   refine WO.ok (OK.ldArr Value.string S20 0 9 9 ((i.gOp).toNat) ByteArray.empty (by kernel_rfl) (by kernel_rfl) rfl (by first | omega | (simp; omega))) ?_
   refine WB.mk (S20.erase 0) ?_
   refine WA.takeOK 5 #[true, true, true, true, true, true, true, true, true, false, false] (by kernel_rfl) (by kernel_rfl) (by kernel_rfl) (by kernel_rfl) (fun w_ S_ => OK.cat 10 (nameL.getD ((i.gOp).toNat) ByteArray.empty) (⟨#[32, 114]⟩ : ByteArray) ((nameL.getD ((i.gOp).toNat) ByteArray.empty) ++ (⟨#[32, 114]⟩ : ByteArray)) (by kernel_rfl) (by first | (simp only [ByteArray.size_append, lit_size, List.size_toArray, List.length_cons, List.length_nil]; omega)) (rfl)) rfl ?_
   refine WA.takeOK 9 #[true, true, true, true, true, true, true, true, true, true, false] (by kernel_rfl) (by kernel_rfl) (by kernel_rfl) (by kernel_rfl) (fun w_ S_ => OK.cat 14 ((nameL.getD ((i.gOp).toNat) ByteArray.empty) ++ (⟨#[32, 114]⟩ : ByteArray)) (itoaB i.gA) (((nameL.getD ((i.gOp).toNat) ByteArray.empty) ++ (⟨#[32, 114]⟩ : ByteArray)) ++ (itoaB i.gA)) (by kernel_rfl) (by first | (simp only [ByteArray.size_append, lit_size, List.size_toArray, List.length_cons, List.length_nil]; omega)) (rfl)) rfl ?_
   refine WA.take 10 3 (.string (((nameL.getD ((i.gOp).toNat) ByteArray.empty) ++ (⟨#[32, 114]⟩ : ByteArray)) ++ (itoaB i.gA))) #[true, true, true, true, true, true, true, true, true, true, true] (by kernel_rfl) (by kernel_rfl) (by kernel_rfl) (fun _ _ => by kernel_rfl) (by kernel_rfl) ?_
   refine WA.weaken (env' := [(1, .pointer (some ⟨b1, 0, none⟩)), (3, .string (((nameL.getD ((i.gOp).toNat) ByteArray.empty) ++ (⟨#[32, 114]⟩ : ByteArray)) ++ (itoaB i.gA)))]) (by kernel_rfl) ?_
   exact W1 bd0 w20 S20
 have W4 : ∀ (bd0 : Nat) (w21 : World), Sep w [box bd0 (nameL.map Value.string) 9, box b1 [.int .i64 i.gOp, .int .i64 i.gA, .int .i64 i.gB, .int .i64 i.gC, .int .i64 i.gK] 23] w21 → WA Tryd.prog 12 43 R K12_1 (fun w_ => Sep w [box b1 [.int .i64 i.gOp, .int .i64 i.gA, .int .i64 i.gB, .int .i64 i.gC, .int .i64 i.gK] 23] w_) 5 #[true, true, true, true, false, false, true, true, false, false, false] [(1, .pointer (some ⟨b1, 0, none⟩)), (8, .pointer (some ⟨bd0, (i.gOp).toNat, none⟩)), (12, .int .i64 i.gA)] w21 := by
  intro bd0 w21 S21
  refine WA.all [4, 8] (by kernel_rfl) rfl ⟨?_, ?_, trivial⟩
  ·skip
   refine WO.set #[true, true, true, true, true, false, true, true, false, false, false] (by kernel_rfl) ?_
   refine WO.ok (OK.ldArr Value.string S21 0 9 9 ((i.gOp).toNat) ByteArray.empty (by kernel_rfl) (by kernel_rfl) rfl (by first | omega | (simp; omega))) ?_
   refine WB.mk (S21.erase 0) ?_
   refine WA.takeOK 5 #[true, true, true, true, true, true, true, true, false, false, false] (by kernel_rfl) (by kernel_rfl) (by kernel_rfl) (by kernel_rfl) (fun w_ S_ => OK.cat 10 (nameL.getD ((i.gOp).toNat) ByteArray.empty) (⟨#[32, 114]⟩ : ByteArray) ((nameL.getD ((i.gOp).toNat) ByteArray.empty) ++ (⟨#[32, 114]⟩ : ByteArray)) (by kernel_rfl) (by first | (simp only [ByteArray.size_append, lit_size, List.size_toArray, List.length_cons, List.length_nil]; omega)) (rfl)) rfl ?_
   refine WA.weaken (env' := [(1, .pointer (some ⟨b1, 0, none⟩)), (10, .string ((nameL.getD ((i.gOp).toNat) ByteArray.empty) ++ (⟨#[32, 114]⟩ : ByteArray))), (12, .int .i64 i.gA)]) (by kernel_rfl) ?_
   exact W2 bd0 w21 S21
  ·skip
   refine WO.set #[true, true, true, true, false, false, true, true, true, false, false] (by kernel_rfl) ?_
   refine WO.callF 13 28 #[.int .i64 i.gA] hb28 (by kernel_rfl) (rtext_any i.gA _ (by omega)) ?_
   rintro _ w22 ⟨rfl, T17⟩
   have S22 : Sep w [box bd0 (nameL.map Value.string) 9, box b1 [.int .i64 i.gOp, .int .i64 i.gA, .int .i64 i.gB, .int .i64 i.gC, .int .i64 i.gK] 23] w22 := S21.trans T17
   clear T17 S21
   have := itoaB_size (n := i.gA) (by omega)
   refine WB.mk (S22.erase 0) ?_
   refine WA.weaken (env' := [(1, .pointer (some ⟨b1, 0, none⟩)), (8, .pointer (some ⟨bd0, (i.gOp).toNat, none⟩)), (13, .string (itoaB i.gA))]) (by kernel_rfl) ?_
   exact W3 bd0 w22 S22
 have W5 : ∀ (w23 : World), Sep w [box b1 [.int .i64 i.gOp, .int .i64 i.gA, .int .i64 i.gB, .int .i64 i.gC, .int .i64 i.gK] 23] w23 → WA Tryd.prog 12 43 R K12_1 (fun w_ => Sep w [box b1 [.int .i64 i.gOp, .int .i64 i.gA, .int .i64 i.gB, .int .i64 i.gC, .int .i64 i.gK] 23] w_) 7 #[false, true, true, false, false, false, true, true, false, false, false] [(1, .pointer (some ⟨b1, 0, none⟩)), (7, .int .i64 i.gOp), (12, .int .i64 i.gA)] w23 := by
  intro w23 S23
  refine WA.all [0] (by kernel_rfl) rfl ⟨?_, trivial⟩
  ·skip
   refine WO.set #[true, true, true, false, false, false, true, true, false, false, false] (by kernel_rfl) ?_
   refine WO.callF 5 27 #[] hb27 (by kernel_rfl) (names_any _) ?_
   rintro _ w24 ⟨bd0, rfl, T18⟩
   have S24 : Sep w [box bd0 (nameL.map Value.string) 9, box b1 [.int .i64 i.gOp, .int .i64 i.gA, .int .i64 i.gB, .int .i64 i.gC, .int .i64 i.gK] 23] w24 := S23.trans T18
   clear T18 S23
   refine WB.mk (S24.erase 0) ?_
   refine WA.takeOK 3 #[true, true, true, true, false, false, true, true, false, false, false] (by kernel_rfl) (by kernel_rfl) (by kernel_rfl) (by kernel_rfl) (fun w_ S_ => OK.index 8 52 1 (some ⟨bd0, 0, none⟩) ⟨bd0, 0, none⟩ 23 (i.gOp).toNat i.gOp ⟨bd0, (i.gOp).toNat, none⟩ (by kernel_rfl) (by kernel_rfl) rfl (by omega) (by first | omega | (simp; omega)) (by rw [Nat.mul_one, add_block, Nat.zero_add])) rfl ?_
   refine WA.weaken (env' := [(1, .pointer (some ⟨b1, 0, none⟩)), (8, .pointer (some ⟨bd0, (i.gOp).toNat, none⟩)), (12, .int .i64 i.gA)]) (by kernel_rfl) ?_
   exact W4 bd0 w24 S24
 refine J.drawAny (fun w_ => Sep w [box b1 [.int .i64 i.gOp, .int .i64 i.gA, .int .i64 i.gB, .int .i64 i.gC, .int .i64 i.gK] 23] w_) S1 11 #[false, false, false, false, false, false, false, false, false, false, false] Tryd.mixed (by kernel_rfl) (by kernel_rfl) (by kernel_rfl) ?_
 intro w25 S25
 refine WB.mk S25 ?_
 refine WA.take 1 6 (.pointer (some ⟨b1, 0, none⟩)) #[false, true, false, false, false, false, false, false, false, false, false] (by kernel_rfl) (by kernel_rfl) (by kernel_rfl) (fun _ _ => by kernel_rfl) (by kernel_rfl) ?_
 refine WA.takeOK 2 #[false, true, true, false, false, false, false, false, false, false, false] (by kernel_rfl) (by kernel_rfl) (by kernel_rfl) (by kernel_rfl) (fun w_ S_ => OK.ldBox S_ 0 7 3 0 (.int .i64 i.gOp) (by kernel_rfl) rfl (by kernel_rfl)) rfl ?_
 refine WA.take 6 11 (.pointer (some ⟨b1, 1, none⟩)) #[false, true, true, false, false, false, true, false, false, false, false] (by kernel_rfl) (by kernel_rfl) (by kernel_rfl) (fun _ _ => by kernel_rfl) (by kernel_rfl) ?_
 refine WA.takeOK 7 #[false, true, true, false, false, false, true, true, false, false, false] (by kernel_rfl) (by kernel_rfl) (by kernel_rfl) (by kernel_rfl) (fun w_ S_ => OK.ldBox S_ 0 12 3 1 (.int .i64 i.gA) (by kernel_rfl) rfl (by kernel_rfl)) rfl ?_
 refine WA.weaken (env' := [(1, .pointer (some ⟨b1, 0, none⟩)), (7, .int .i64 i.gOp), (12, .int .i64 i.gA)]) (by kernel_rfl) ?_
 exact W5 w25 S25

theorem hb29 : HasBody Tryd.prog 29 := fun _ _ => by kernel_rfl
noncomputable def K29_0 : List Item := adv 19 [] (bodyOf Tryd.f29)
noncomputable def K29_1 : List Item := adv 8 [] K29_0
noncomputable def K29_2 : List Item := adv 11 [true] K29_1
noncomputable def K29_3 : List Item := adv 13 [true] K29_2
noncomputable def K29_4 : List Item := adv 5 [] (popK (popK (popK K29_3)))
noncomputable def K29_5 : List Item := adv 6 [] K29_4
noncomputable def K29_6 : List Item := adv 2 [] K29_2
noncomputable def K29_7 : List Item := adv 3 [] (popK K29_6)
noncomputable def K29_8 : List Item := adv 7 [true] K29_7
noncomputable def K29_9 : List Item := adv 5 [] (popK (popK (popK K29_8)))
noncomputable def K29_10 : List Item := adv 6 [] K29_9
noncomputable def K29_11 : List Item := adv 6 [false] K29_7
noncomputable def K29_12 : List Item := adv 7 [false] K29_1
set_option maxRecDepth 20000 in
set_option maxHeartbeats 20000000 in
theorem rwords_any (s : ByteArray) (w : World) (hs : s.size ≤ 1000000) : Ret Tryd.prog 29 #[.string s] w (fun v w' => ∃ a cap, v = .slice a (piecesB 32 s).length cap ∧ Sep w [rowOf (enc1 Value.string) a cap 9 1 (piecesB 32 s)] w') := by
 have S0 := Sep.refl w
 refine Ret.named fun R hR => ?_
 refine Ret.of_J (N := 32) [(0, .string s)] Tryd.func29 rfl rfl (Nat.le_of_ble_eq_true (by kernel_rfl)) (by kernel_rfl) ?_
 refine J.run 19 K29_0 [(5, .int .i64 0), (4, .int .i64 0), (3, .slice none 0 0), (0, .string s)] w (by kernel_rfl) ?_
 have S1 : Sep w [rowOf (enc1 Value.string) none 0 9 1 ([])] w := S0.nilRow 9 1
 have L29_1 : ∀ (mm_ : Nat) (ra : Option Addr) (rc : Nat) (out : List ByteArray) (fr : Int) (i : Int) (w1 : World), (0 ≤ i) → (i ≤ (s.size : Int) + 1) → (0 ≤ fr ∧ fr ≤ i) → (((out).length : Int) ≤ i) → (i ≤ (s.size : Int) → cutI s out fr i) → (i > (s.size : Int) → piecesB 32 s = out) → Sep w [rowOf (enc1 Value.string) ra rc 9 1 out] w1 → ((s.size : Int) + 1 - i).toNat = mm_ → J Tryd.prog 29 32 R K29_0 [(5, .int .i64 i), (4, .int .i64 fr), (3, .slice ra out.length rc), (0, .string s)] w1 := by
  intro mm1
  induction mm1 using Nat.strongRecOn with
  | _ mm1 ih1 =>
  intro ra rc out fr i w1 h0 h1 hfr hol hc hc2 S2 hm1
  refine J.run 8 K29_1 [(9, .bool (decide (i ≤ (s.size : Int)))), (5, .int .i64 i), (4, .int .i64 fr), (3, .slice ra out.length rc), (0, .string s)] w1 (by kernel_rfl) ?_
  by_cases fk1 : i ≤ (s.size : Int)
  ·skip
   refine J.head (.bool true) (congrArg Value.bool (decide_eq_true fk1)) ?_
   refine J.run 11 K29_2 [(16, .bool (i == (s.size : Int))), (5, .int .i64 i), (4, .int .i64 fr), (3, .slice ra out.length rc), (0, .string s)] w1 (by kernel_rfl) ?_
   by_cases fk2 : i = (s.size : Int)
   ·skip
    refine J.head (.bool true) (congrArg Value.bool (beq_iff_eq.2 fk2)) ?_
    refine J.run 13 K29_3 [(25, .int .i64 i), (24, .int .i64 fr), (23, .string s), (22, .slice ra out.length rc), (5, .int .i64 i), (0, .string s)] w1 (by kernel_rfl) ?_
    refine J.ok (OK.sliceT 26 9 s (some (.int .i64 fr)) (some (.int .i64 i)) ((fr).toNat) ((i).toNat) (by kernel_rfl) (by kernel_rfl) (.inr ⟨_, _, rfl, by omega⟩) (.inr ⟨_, _, rfl, by omega⟩) (by first | omega | (simp; omega)) (by first | omega | (simp; omega))) ?_
    have := size_extract s (i := (fr).toNat) (j := (i).toNat) (by first | omega | (simp; omega))
    refine J.newSlice S2 27 1 [.string (s.extract ((fr).toNat) ((i).toNat))] 9 (by kernel_rfl) ?_
    intro b1 w2 S3
    refine J.append (enc1 Value.string) S3 1 out (s.extract ((fr).toNat) ((i).toNat)) 28 52 (.string ByteArray.empty) 16 ⟨b1, 0, none⟩ 1 rfl (by kernel_rfl) (by kernel_rfl) (by kernel_rfl) (by kernel_rfl) (by decide) (box_cells (S3.nth 0 rfl)) (by kernel_rfl) (by kernel_rfl) (⟨by omega, by omega⟩) ?_
    intro ra1 rc1 w3 S4
    replace S4 : Sep w [box b1 [.string (s.extract ((fr).toNat) ((i).toNat))] 9, rowOf (enc1 Value.string) ra1 rc1 9 1 (out ++ [(s.extract ((fr).toNat) ((i).toNat))])] w3 := S4
    have S5 : Sep w [rowOf (enc1 Value.string) ra1 rc1 9 1 (out ++ [(s.extract ((fr).toNat) ((i).toNat))])] w3 := S4.erase 0
    clear S4
    refine J.run 5 K29_4 [(30, .int .i64 (IntKind.wrap .i64 (i + 1))), (3, .slice ra1 ((out ++ [(s.extract ((fr).toNat) ((i).toNat))]).length) rc1), (5, .int .i64 i), (0, .string s)] w3 (by kernel_rfl) ?_
    refine J.head (.int .i64 (i + 1)) (congrArg (Value.int .i64) (IntWalk.i64_in _ (by omega))) ?_
    refine J.run 6 K29_5 [(11, .int .i64 (IntKind.wrap .i64 (i + 1))), (4, .int .i64 (i + 1)), (3, .slice ra1 ((out ++ [(s.extract ((fr).toNat) ((i).toNat))]).length) rc1), (0, .string s)] w3 (by kernel_rfl) ?_
    refine J.head (.int .i64 (i + 1)) (congrArg (Value.int .i64) (IntWalk.i64_in _ (by omega))) ?_
    refine J.run 3 K29_0 [(5, .int .i64 (i + 1)), (4, .int .i64 (i + 1)), (3, .slice ra1 ((out ++ [(s.extract ((fr).toNat) ((i).toNat))]).length) rc1), (0, .string s)] w3 (by kernel_rfl) ?_
    refine J.run 0 K29_0 [(5, .int .i64 (i + 1)), (4, .int .i64 (i + 1)), (3, .slice ra1 ((out ++ [(s.extract ((fr).toNat) ((i).toNat))]).length) rc1), (0, .string s)] w3 (by kernel_rfl) ?_
    exact ih1 _ (show ((s.size : Int) + 1 - (i + 1)).toNat < mm1 from by omega) ra1 rc1 (out ++ [(s.extract ((fr).toNat) ((i).toNat))]) (i + 1) (i + 1) w3 (by omega) (by omega) (by omega) (by (try rw [List.length_append, List.length_singleton]); omega) (fun h_ => cut_blank (hc (by omega)) (by omega) (by omega) (by omega) (by omega)) (fun h_ => cut_last (hc (by omega)) (by omega)) S5 rfl
   ·skip
    refine J.head (.bool false) (congrArg Value.bool (beq_eq_false_iff_ne.2 fk2)) ?_
    refine J.run 2 K29_6 [(18, .int .i64 i), (17, .string s), (16, .bool false), (5, .int .i64 i), (4, .int .i64 fr), (3, .slice ra out.length rc), (0, .string s)] w1 (by kernel_rfl) ?_
    have := byteAt_bounds s (i).toNat
    refine J.ok (OK.byte 19 9 s i (byteAt s (i).toNat) (by kernel_rfl) (by kernel_rfl) (by omega) (by omega) (rfl)) ?_
    refine J.run 3 K29_7 [(21, .bool ((byteAt s (i).toNat) == 32)), (5, .int .i64 i), (4, .int .i64 fr), (3, .slice ra out.length rc), (0, .string s)] w1 (by kernel_rfl) ?_
    by_cases fk3 : (byteAt s (i).toNat) = 32
    ·skip
     refine J.head (.bool true) (congrArg Value.bool (beq_iff_eq.2 fk3)) ?_
     refine J.run 7 K29_8 [(25, .int .i64 i), (24, .int .i64 fr), (23, .string s), (22, .slice ra out.length rc), (5, .int .i64 i), (0, .string s)] w1 (by kernel_rfl) ?_
     refine J.ok (OK.sliceT 26 9 s (some (.int .i64 fr)) (some (.int .i64 i)) ((fr).toNat) ((i).toNat) (by kernel_rfl) (by kernel_rfl) (.inr ⟨_, _, rfl, by omega⟩) (.inr ⟨_, _, rfl, by omega⟩) (by first | omega | (simp; omega)) (by first | omega | (simp; omega))) ?_
     have := size_extract s (i := (fr).toNat) (j := (i).toNat) (by first | omega | (simp; omega))
     refine J.newSlice S2 27 1 [.string (s.extract ((fr).toNat) ((i).toNat))] 9 (by kernel_rfl) ?_
     intro b2 w4 S6
     refine J.append (enc1 Value.string) S6 1 out (s.extract ((fr).toNat) ((i).toNat)) 28 52 (.string ByteArray.empty) 16 ⟨b2, 0, none⟩ 1 rfl (by kernel_rfl) (by kernel_rfl) (by kernel_rfl) (by kernel_rfl) (by decide) (box_cells (S6.nth 0 rfl)) (by kernel_rfl) (by kernel_rfl) (⟨by omega, by omega⟩) ?_
     intro ra2 rc2 w5 S7
     replace S7 : Sep w [box b2 [.string (s.extract ((fr).toNat) ((i).toNat))] 9, rowOf (enc1 Value.string) ra2 rc2 9 1 (out ++ [(s.extract ((fr).toNat) ((i).toNat))])] w5 := S7
     have S8 : Sep w [rowOf (enc1 Value.string) ra2 rc2 9 1 (out ++ [(s.extract ((fr).toNat) ((i).toNat))])] w5 := S7.erase 0
     clear S7
     refine J.run 5 K29_9 [(30, .int .i64 (IntKind.wrap .i64 (i + 1))), (3, .slice ra2 ((out ++ [(s.extract ((fr).toNat) ((i).toNat))]).length) rc2), (5, .int .i64 i), (0, .string s)] w5 (by kernel_rfl) ?_
     refine J.head (.int .i64 (i + 1)) (congrArg (Value.int .i64) (IntWalk.i64_in _ (by omega))) ?_
     refine J.run 6 K29_10 [(11, .int .i64 (IntKind.wrap .i64 (i + 1))), (4, .int .i64 (i + 1)), (3, .slice ra2 ((out ++ [(s.extract ((fr).toNat) ((i).toNat))]).length) rc2), (0, .string s)] w5 (by kernel_rfl) ?_
     refine J.head (.int .i64 (i + 1)) (congrArg (Value.int .i64) (IntWalk.i64_in _ (by omega))) ?_
     refine J.run 3 K29_0 [(5, .int .i64 (i + 1)), (4, .int .i64 (i + 1)), (3, .slice ra2 ((out ++ [(s.extract ((fr).toNat) ((i).toNat))]).length) rc2), (0, .string s)] w5 (by kernel_rfl) ?_
     refine J.run 0 K29_0 [(5, .int .i64 (i + 1)), (4, .int .i64 (i + 1)), (3, .slice ra2 ((out ++ [(s.extract ((fr).toNat) ((i).toNat))]).length) rc2), (0, .string s)] w5 (by kernel_rfl) ?_
     exact ih1 _ (show ((s.size : Int) + 1 - (i + 1)).toNat < mm1 from by omega) ra2 rc2 (out ++ [(s.extract ((fr).toNat) ((i).toNat))]) (i + 1) (i + 1) w5 (by omega) (by omega) (by omega) (by (try rw [List.length_append, List.length_singleton]); omega) (fun h_ => cut_blank (hc (by omega)) (by omega) (by omega) (by omega) (by omega)) (fun h_ => cut_last (hc (by omega)) (by omega)) S8 rfl
    ·skip
     refine J.head (.bool false) (congrArg Value.bool (beq_eq_false_iff_ne.2 fk3)) ?_
     refine J.run 6 K29_11 [(11, .int .i64 (IntKind.wrap .i64 (i + 1))), (4, .int .i64 fr), (3, .slice ra out.length rc), (0, .string s)] w1 (by kernel_rfl) ?_
     refine J.head (.int .i64 (i + 1)) (congrArg (Value.int .i64) (IntWalk.i64_in _ (by omega))) ?_
     refine J.run 3 K29_0 [(5, .int .i64 (i + 1)), (4, .int .i64 fr), (3, .slice ra out.length rc), (0, .string s)] w1 (by kernel_rfl) ?_
     refine J.run 0 K29_0 [(5, .int .i64 (i + 1)), (4, .int .i64 fr), (3, .slice ra out.length rc), (0, .string s)] w1 (by kernel_rfl) ?_
     exact ih1 _ (show ((s.size : Int) + 1 - (i + 1)).toNat < mm1 from by omega) ra rc out fr (i + 1) w1 (by omega) (by omega) (by omega) (by (try rw [List.length_append, List.length_singleton]); omega) (fun h_ => cut_byte (hc (by omega)) (by omega) (by omega) (by omega) (by omega)) (fun h_ => by omega) S2 rfl
  ·skip
   refine J.head (.bool false) (congrArg Value.bool (decide_eq_false fk1)) ?_
   refine J.run 7 K29_12 [(2, .slice ra out.length rc)] w1 (by kernel_rfl) ?_
   refine J.ret Tryd.f29 [.slice ra out.length rc] Tryd.func29 ⟨by kernel_rfl, trivial⟩ ?_
   refine hR _ _ ?_
   rw [← hc2 (by omega)] at S2 ⊢
   exact ⟨_, _, rfl, S2⟩
 exact L29_1 _ none 0 ([]) 0 0 w (by omega) (by omega) (by omega) (by simp) (fun _ => cut_start s) (fun h_ => by omega) S1 rfl

end Go.Proofs.YthfpejhonhaggaaDoor
