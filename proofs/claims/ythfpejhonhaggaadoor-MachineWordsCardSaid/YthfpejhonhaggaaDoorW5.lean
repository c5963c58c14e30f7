/- Walks of functions of this seat, printed by a program over the engine. Conditions: as each theorem says. -/
import Derived.Test.YthfpejhonhaggaaDoorW4
namespace Go.Proofs.YthfpejhonhaggaaDoor
open Go.Eng Go.RowKit
set_option linter.unusedSimpArgs false
set_option linter.unusedVariables false
theorem hb5 : HasBody Tryd.prog 5 := fun _ _ => by kernel_rfl
noncomputable def K5_0 : List Item := adv 2 [] (bodyOf Tryd.f5)
noncomputable def K5_1 : List Item := adv 6 [] (popK K5_0)
noncomputable def K5_2 : List Item := adv 2 [] (popK (popK K5_1))
noncomputable def K5_3 : List Item := adv 5 [false] K5_2
noncomputable def K5_4 : List Item := adv 1 [] (popK K5_3)
noncomputable def K5_5 : List Item := adv 1 [] K5_4
noncomputable def K5_6 : List Item := adv 1 [] (popK K5_5)
noncomputable def K5_7 : List Item := adv 1 [] K5_6
noncomputable def K5_8 : List Item := adv 1 [] (popK K5_7)
noncomputable def K5_9 : List Item := adv 1 [] K5_8
noncomputable def K5_10 : List Item := adv 1 [] (popK K5_9)
noncomputable def K5_11 : List Item := adv 22 [true] (popK K5_10)
noncomputable def K5_12 : List Item := adv 1 [] (popK K5_11)
noncomputable def K5_13 : List Item := adv 2 [] K5_12
noncomputable def K5_14 : List Item := adv 1 [] K5_13
noncomputable def K5_15 : List Item := adv 9 [] (popK (popK K5_14))
noncomputable def K5_16 : List Item := adv 13 [true] K5_15
noncomputable def K5_17 : List Item := adv 1 [] (popK K5_16)
noncomputable def K5_18 : List Item := adv 2 [] K5_17
noncomputable def K5_19 : List Item := adv 1 [] K5_18
noncomputable def K5_20 : List Item := adv 9 [] (popK (popK K5_19))
noncomputable def K5_21 : List Item := adv 13 [true] K5_20
noncomputable def K5_22 : List Item := adv 1 [] (popK K5_21)
noncomputable def K5_23 : List Item := adv 2 [] K5_22
noncomputable def K5_24 : List Item := adv 1 [] K5_23
noncomputable def K5_25 : List Item := adv 9 [] (popK (popK K5_24))
noncomputable def K5_26 : List Item := adv 13 [true] K5_25
noncomputable def K5_27 : List Item := adv 1 [] (popK K5_26)
noncomputable def K5_28 : List Item := adv 2 [] K5_27
noncomputable def K5_29 : List Item := adv 1 [] K5_28
noncomputable def K5_30 : List Item := adv 9 [] (popK (popK K5_29))
noncomputable def K5_31 : List Item := adv 13 [true] K5_30
noncomputable def K5_32 : List Item := adv 1 [] (popK K5_31)
noncomputable def K5_33 : List Item := adv 2 [] K5_32
noncomputable def K5_34 : List Item := adv 1 [] K5_33
noncomputable def K5_35 : List Item := adv 9 [] (popK (popK K5_34))
noncomputable def K5_36 : List Item := adv 13 [true] K5_35
noncomputable def K5_37 : List Item := adv 1 [] (popK K5_36)
noncomputable def K5_38 : List Item := adv 2 [] K5_37
noncomputable def K5_39 : List Item := adv 1 [] K5_38
noncomputable def K5_40 : List Item := adv 9 [] (popK (popK K5_39))
noncomputable def K5_41 : List Item := adv 13 [true] K5_40
noncomputable def K5_42 : List Item := adv 1 [] (popK K5_41)
noncomputable def K5_43 : List Item := adv 2 [] K5_42
noncomputable def K5_44 : List Item := adv 1 [] K5_43
noncomputable def K5_45 : List Item := adv 9 [] (popK (popK K5_44))
noncomputable def K5_46 : List Item := adv 13 [true] K5_45
noncomputable def K5_47 : List Item := adv 1 [] (popK K5_46)
noncomputable def K5_48 : List Item := adv 2 [] K5_47
noncomputable def K5_49 : List Item := adv 1 [] K5_48
noncomputable def K5_50 : List Item := adv 9 [] (popK (popK K5_49))
noncomputable def K5_51 : List Item := adv 14 [false] K5_50
noncomputable def K5_52 : List Item := adv 6 [true] K5_2
set_option maxRecDepth 20000 in
set_option maxHeartbeats 20000000 in
theorem encode_any (i : Ins) (w : World) (hi : insQ w i) : Ret Tryd.prog 5 #[.agg #[.int .i64 i.gOp, .int .i64 i.gA, .int .i64 i.gB, .int .i64 i.gC, .int .i64 i.gK]] w (fun v w' => ∃ a cap, v = .tuple #[.slice a (encX i).length cap, .int .i64 (encE i)] ∧ Sep w [rowOf (enc1 (Value.int .u8)) a cap 5 1 (encX i)] w') := by
 have S0 := Sep.refl w
 refine Ret.named fun R hR => ?_
 refine Ret.of_J (N := 36) [(0, .agg #[.int .i64 i.gOp, .int .i64 i.gA, .int .i64 i.gB, .int .i64 i.gC, .int .i64 i.gK])] Tryd.func5 rfl rfl (Nat.le_of_ble_eq_true (by kernel_rfl)) (by kernel_rfl) ?_
 obtain ⟨q1, q2, q3, q4, q5, _⟩ := id hi
 have hu : 0 ≤ u64F i.gK ∧ u64F i.gK < 18446744073709551616 := by unfold u64F; omega
 refine J.run 2 K5_0 [(0, .agg #[.int .i64 i.gOp, .int .i64 i.gA, .int .i64 i.gB, .int .i64 i.gC, .int .i64 i.gK])] w (by kernel_rfl) ?_
 refine J.new S0 1 [.int .i64 i.gOp, .int .i64 i.gA, .int .i64 i.gB, .int .i64 i.gC, .int .i64 i.gK] 23 (by kernel_rfl) ?_
 intro b1 w1 S1
 refine J.run 6 K5_1 [(1, .pointer (some ⟨b1, 0, none⟩))] w1 (by kernel_rfl) ?_
 refine J.ok (OK.ldBox S1 0 6 23 0 (.agg #[.int .i64 i.gOp, .int .i64 i.gA, .int .i64 i.gB, .int .i64 i.gC, .int .i64 i.gK]) (by kernel_rfl) rfl (by kernel_rfl)) ?_
 refine J.callF 7 15 #[.agg #[.int .i64 i.gOp, .int .i64 i.gA, .int .i64 i.gB, .int .i64 i.gC, .int .i64 i.gK]] hb15 (by kernel_rfl) (formed_any i _ (insQ_sep hi S1)) ?_
 rintro _ w2 ⟨rfl, T1⟩
 have S2 : Sep w [box b1 [.int .i64 i.gOp, .int .i64 i.gA, .int .i64 i.gB, .int .i64 i.gC, .int .i64 i.gK] 23] w2 := S1.trans T1
 clear T1 S1
 refine J.run 2 K5_2 [(8, .bool (!(formB i))), (1, .pointer (some ⟨b1, 0, none⟩))] w2 (by kernel_rfl) ?_
 rcases Bool.eq_false_or_eq_true (formB i) with fk1 | fk1
 ·skip
  refine J.head (.bool false) (congrArg Value.bool (by rw [fk1]; rfl)) ?_
  refine J.run 5 K5_3 [(9, .pointer (some ⟨b1, 0, none⟩)), (1, .pointer (some ⟨b1, 0, none⟩))] w2 (by kernel_rfl) ?_
  refine J.ok (OK.ldBox S2 0 10 3 0 (.int .i64 i.gOp) (by kernel_rfl) rfl (by kernel_rfl)) ?_
  refine J.run 1 K5_4 [(11, .int .u8 (IntKind.wrap .u8 i.gOp)), (1, .pointer (some ⟨b1, 0, none⟩))] w2 (by kernel_rfl) ?_
  refine J.head (.int .u8 (i.gOp % 256)) (congrArg (Value.int .u8) (wrapB _)) ?_
  refine J.run 1 K5_5 [(12, .pointer (some ⟨b1, 1, none⟩)), (11, .int .u8 (i.gOp % 256)), (1, .pointer (some ⟨b1, 0, none⟩))] w2 (by kernel_rfl) ?_
  refine J.ok (OK.ldBox S2 0 13 3 1 (.int .i64 i.gA) (by kernel_rfl) rfl (by kernel_rfl)) ?_
  refine J.run 1 K5_6 [(14, .int .u8 (IntKind.wrap .u8 i.gA)), (11, .int .u8 (i.gOp % 256)), (1, .pointer (some ⟨b1, 0, none⟩))] w2 (by kernel_rfl) ?_
  refine J.head (.int .u8 (i.gA % 256)) (congrArg (Value.int .u8) (wrapB _)) ?_
  refine J.run 1 K5_7 [(15, .pointer (some ⟨b1, 2, none⟩)), (14, .int .u8 (i.gA % 256)), (11, .int .u8 (i.gOp % 256)), (1, .pointer (some ⟨b1, 0, none⟩))] w2 (by kernel_rfl) ?_
  refine J.ok (OK.ldBox S2 0 16 3 2 (.int .i64 i.gB) (by kernel_rfl) rfl (by kernel_rfl)) ?_
  refine J.run 1 K5_8 [(17, .int .u8 (IntKind.wrap .u8 i.gB)), (14, .int .u8 (i.gA % 256)), (11, .int .u8 (i.gOp % 256)), (1, .pointer (some ⟨b1, 0, none⟩))] w2 (by kernel_rfl) ?_
  refine J.head (.int .u8 (i.gB % 256)) (congrArg (Value.int .u8) (wrapB _)) ?_
  refine J.run 1 K5_9 [(18, .pointer (some ⟨b1, 3, none⟩)), (17, .int .u8 (i.gB % 256)), (14, .int .u8 (i.gA % 256)), (11, .int .u8 (i.gOp % 256)), (1, .pointer (some ⟨b1, 0, none⟩))] w2 (by kernel_rfl) ?_
  refine J.ok (OK.ldBox S2 0 19 3 3 (.int .i64 i.gC) (by kernel_rfl) rfl (by kernel_rfl)) ?_
  refine J.run 1 K5_10 [(20, .int .u8 (IntKind.wrap .u8 i.gC)), (17, .int .u8 (i.gB % 256)), (14, .int .u8 (i.gA % 256)), (11, .int .u8 (i.gOp % 256)), (1, .pointer (some ⟨b1, 0, none⟩))] w2 (by kernel_rfl) ?_
  refine J.head (.int .u8 (i.gC % 256)) (congrArg (Value.int .u8) (wrapB _)) ?_
  refine J.newSlice S2 21 4 [.int .u8 (i.gOp % 256), .int .u8 (i.gA % 256), .int .u8 (i.gB % 256), .int .u8 (i.gC % 256)] 5 (by kernel_rfl) ?_
  intro b2 w3 S3
  refine J.run 22 K5_11 [(27, .pointer (some ⟨b1, 4, none⟩)), (26, .slice (some ⟨b2, 0, none⟩) 4 4), (5, .int .i64 56), (1, .pointer (some ⟨b1, 0, none⟩))] w3 (by kernel_rfl) ?_
  refine J.ok (OK.ldBox S3 1 28 3 4 (.int .i64 i.gK) (by kernel_rfl) rfl (by kernel_rfl)) ?_
  refine J.run 1 K5_12 [(29, .int .u64 (IntKind.wrap .u64 i.gK)), (26, .slice (some ⟨b2, 0, none⟩) 4 4), (5, .int .i64 56), (1, .pointer (some ⟨b1, 0, none⟩))] w3 (by kernel_rfl) ?_
  refine J.head (.int .u64 (u64F i.gK)) (congrArg (Value.int .u64) (wrapU _)) ?_
  refine J.run 2 K5_13 [(31, .int .u64 (Int.fdiv (u64F i.gK) (2 ^ 56))), (26, .slice (some ⟨b2, 0, none⟩) 4 4), (5, .int .i64 56), (1, .pointer (some ⟨b1, 0, none⟩))] w3 (by kernel_rfl) ?_
  refine J.head (.int .u64 ((u64F i.gK) / 72057594037927936)) (congrArg (Value.int .u64) (shr_lit _ _ (by decide))) ?_
  refine J.run 1 K5_14 [(32, .int .u8 (IntKind.wrap .u8 ((u64F i.gK) / 72057594037927936))), (26, .slice (some ⟨b2, 0, none⟩) 4 4), (5, .int .i64 56), (1, .pointer (some ⟨b1, 0, none⟩))] w3 (by kernel_rfl) ?_
  refine J.head (.int .u8 (((u64F i.gK) / 72057594037927936) % 256)) (congrArg (Value.int .u8) (wrapB _)) ?_
  refine J.newSlice S3 33 1 [.int .u8 (((u64F i.gK) / 72057594037927936) % 256)] 5 (by kernel_rfl) ?_
  intro b3 w4 S4
  have S5 : Sep w [box b3 [.int .u8 (((u64F i.gK) / 72057594037927936) % 256)] 5, rowOf (enc1 (Value.int .u8)) (some ⟨b2, 0, none⟩) 4 5 1 ([i.gOp % 256, i.gA % 256, i.gB % 256, i.gC % 256]), box b1 [.int .i64 i.gOp, .int .i64 i.gA, .int .i64 i.gB, .int .i64 i.gC, .int .i64 i.gK] 23] w4 := box_row (enc1 (Value.int .u8)) S4 1 [i.gOp % 256, i.gA % 256, i.gB % 256, i.gC % 256] 1 rfl rfl rfl (by simp [maxLen]) (.inr trivial)
  refine J.append (enc1 (Value.int .u8)) S5 1 ([i.gOp % 256, i.gA % 256, i.gB % 256, i.gC % 256]) (((u64F i.gK) / 72057594037927936) % 256) 34 24 (.int .u8 0) 1 ⟨b3, 0, none⟩ 1 rfl (by kernel_rfl) (by kernel_rfl) (by kernel_rfl) (by kernel_rfl) (by decide) (box_cells (S5.nth 0 rfl)) (by kernel_rfl) (by kernel_rfl) (⟨by (try simp only [List.length_append, List.length_cons, List.length_nil]); omega, by (try simp only [List.length_append, List.length_cons, List.length_nil]); omega⟩) ?_
  intro ra1 rc1 w5 S6
  replace S6 : Sep w [box b3 [.int .u8 (((u64F i.gK) / 72057594037927936) % 256)] 5, rowOf (enc1 (Value.int .u8)) ra1 rc1 5 1 (([i.gOp % 256, i.gA % 256, i.gB % 256, i.gC % 256]) ++ [((u64F i.gK) / 72057594037927936) % 256]), box b1 [.int .i64 i.gOp, .int .i64 i.gA, .int .i64 i.gB, .int .i64 i.gC, .int .i64 i.gK] 23] w5 := S6
  have S7 : Sep w [rowOf (enc1 (Value.int .u8)) ra1 rc1 5 1 (([i.gOp % 256, i.gA % 256, i.gB % 256, i.gC % 256]) ++ [((u64F i.gK) / 72057594037927936) % 256]), box b1 [.int .i64 i.gOp, .int .i64 i.gA, .int .i64 i.gB, .int .i64 i.gC, .int .i64 i.gK] 23] w5 := S6.erase 0
  clear S6
  refine J.run 9 K5_15 [(5, .int .i64 48), (4, .slice ra1 ((([i.gOp % 256, i.gA % 256, i.gB % 256, i.gC % 256]) ++ [((u64F i.gK) / 72057594037927936) % 256]).length) rc1), (1, .pointer (some ⟨b1, 0, none⟩))] w5 (by kernel_rfl) ?_
  refine J.run 13 K5_16 [(27, .pointer (some ⟨b1, 4, none⟩)), (26, .slice ra1 ((([i.gOp % 256, i.gA % 256, i.gB % 256, i.gC % 256]) ++ [((u64F i.gK) / 72057594037927936) % 256]).length) rc1), (5, .int .i64 48), (1, .pointer (some ⟨b1, 0, none⟩))] w5 (by kernel_rfl) ?_
  refine J.ok (OK.ldBox S7 1 28 3 4 (.int .i64 i.gK) (by kernel_rfl) rfl (by kernel_rfl)) ?_
  refine J.run 1 K5_17 [(29, .int .u64 (IntKind.wrap .u64 i.gK)), (26, .slice ra1 ((([i.gOp % 256, i.gA % 256, i.gB % 256, i.gC % 256]) ++ [((u64F i.gK) / 72057594037927936) % 256]).length) rc1), (5, .int .i64 48), (1, .pointer (some ⟨b1, 0, none⟩))] w5 (by kernel_rfl) ?_
  refine J.head (.int .u64 (u64F i.gK)) (congrArg (Value.int .u64) (wrapU _)) ?_
  refine J.run 2 K5_18 [(31, .int .u64 (Int.fdiv (u64F i.gK) (2 ^ 48))), (26, .slice ra1 ((([i.gOp % 256, i.gA % 256, i.gB % 256, i.gC % 256]) ++ [((u64F i.gK) / 72057594037927936) % 256]).length) rc1), (5, .int .i64 48), (1, .pointer (some ⟨b1, 0, none⟩))] w5 (by kernel_rfl) ?_
  refine J.head (.int .u64 ((u64F i.gK) / 281474976710656)) (congrArg (Value.int .u64) (shr_lit _ _ (by decide))) ?_
  refine J.run 1 K5_19 [(32, .int .u8 (IntKind.wrap .u8 ((u64F i.gK) / 281474976710656))), (26, .slice ra1 ((([i.gOp % 256, i.gA % 256, i.gB % 256, i.gC % 256]) ++ [((u64F i.gK) / 72057594037927936) % 256]).length) rc1), (5, .int .i64 48), (1, .pointer (some ⟨b1, 0, none⟩))] w5 (by kernel_rfl) ?_
  refine J.head (.int .u8 (((u64F i.gK) / 281474976710656) % 256)) (congrArg (Value.int .u8) (wrapB _)) ?_
  refine J.newSlice S7 33 1 [.int .u8 (((u64F i.gK) / 281474976710656) % 256)] 5 (by kernel_rfl) ?_
  intro b4 w6 S8
  refine J.append (enc1 (Value.int .u8)) S8 1 (([i.gOp % 256, i.gA % 256, i.gB % 256, i.gC % 256]) ++ [((u64F i.gK) / 72057594037927936) % 256]) (((u64F i.gK) / 281474976710656) % 256) 34 24 (.int .u8 0) 1 ⟨b4, 0, none⟩ 1 rfl (by kernel_rfl) (by kernel_rfl) (by kernel_rfl) (by kernel_rfl) (by decide) (box_cells (S8.nth 0 rfl)) (by kernel_rfl) (by kernel_rfl) (⟨by (try simp only [List.length_append, List.length_cons, List.length_nil]); omega, by (try simp only [List.length_append, List.length_cons, List.length_nil]); omega⟩) ?_
  intro ra2 rc2 w7 S9
  replace S9 : Sep w [box b4 [.int .u8 (((u64F i.gK) / 281474976710656) % 256)] 5, rowOf (enc1 (Value.int .u8)) ra2 rc2 5 1 ((([i.gOp % 256, i.gA % 256, i.gB % 256, i.gC % 256]) ++ [((u64F i.gK) / 72057594037927936) % 256]) ++ [((u64F i.gK) / 281474976710656) % 256]), box b1 [.int .i64 i.gOp, .int .i64 i.gA, .int .i64 i.gB, .int .i64 i.gC, .int .i64 i.gK] 23] w7 := S9
  have S10 : Sep w [rowOf (enc1 (Value.int .u8)) ra2 rc2 5 1 ((([i.gOp % 256, i.gA % 256, i.gB % 256, i.gC % 256]) ++ [((u64F i.gK) / 72057594037927936) % 256]) ++ [((u64F i.gK) / 281474976710656) % 256]), box b1 [.int .i64 i.gOp, .int .i64 i.gA, .int .i64 i.gB, .int .i64 i.gC, .int .i64 i.gK] 23] w7 := S9.erase 0
  clear S9
  refine J.run 9 K5_20 [(5, .int .i64 40), (4, .slice ra2 (((([i.gOp % 256, i.gA % 256, i.gB % 256, i.gC % 256]) ++ [((u64F i.gK) / 72057594037927936) % 256]) ++ [((u64F i.gK) / 281474976710656) % 256]).length) rc2), (1, .pointer (some ⟨b1, 0, none⟩))] w7 (by kernel_rfl) ?_
  refine J.run 13 K5_21 [(27, .pointer (some ⟨b1, 4, none⟩)), (26, .slice ra2 (((([i.gOp % 256, i.gA % 256, i.gB % 256, i.gC % 256]) ++ [((u64F i.gK) / 72057594037927936) % 256]) ++ [((u64F i.gK) / 281474976710656) % 256]).length) rc2), (5, .int .i64 40), (1, .pointer (some ⟨b1, 0, none⟩))] w7 (by kernel_rfl) ?_
  refine J.ok (OK.ldBox S10 1 28 3 4 (.int .i64 i.gK) (by kernel_rfl) rfl (by kernel_rfl)) ?_
  refine J.run 1 K5_22 [(29, .int .u64 (IntKind.wrap .u64 i.gK)), (26, .slice ra2 (((([i.gOp % 256, i.gA % 256, i.gB % 256, i.gC % 256]) ++ [((u64F i.gK) / 72057594037927936) % 256]) ++ [((u64F i.gK) / 281474976710656) % 256]).length) rc2), (5, .int .i64 40), (1, .pointer (some ⟨b1, 0, none⟩))] w7 (by kernel_rfl) ?_
  refine J.head (.int .u64 (u64F i.gK)) (congrArg (Value.int .u64) (wrapU _)) ?_
  refine J.run 2 K5_23 [(31, .int .u64 (Int.fdiv (u64F i.gK) (2 ^ 40))), (26, .slice ra2 (((([i.gOp % 256, i.gA % 256, i.gB % 256, i.gC % 256]) ++ [((u64F i.gK) / 72057594037927936) % 256]) ++ [((u64F i.gK) / 281474976710656) % 256]).length) rc2), (5, .int .i64 40), (1, .pointer (some ⟨b1, 0, none⟩))] w7 (by kernel_rfl) ?_
  refine J.head (.int .u64 ((u64F i.gK) / 1099511627776)) (congrArg (Value.int .u64) (shr_lit _ _ (by decide))) ?_
  refine J.run 1 K5_24 [(32, .int .u8 (IntKind.wrap .u8 ((u64F i.gK) / 1099511627776))), (26, .slice ra2 (((([i.gOp % 256, i.gA % 256, i.gB % 256, i.gC % 256]) ++ [((u64F i.gK) / 72057594037927936) % 256]) ++ [((u64F i.gK) / 281474976710656) % 256]).length) rc2), (5, .int .i64 40), (1, .pointer (some ⟨b1, 0, none⟩))] w7 (by kernel_rfl) ?_
  refine J.head (.int .u8 (((u64F i.gK) / 1099511627776) % 256)) (congrArg (Value.int .u8) (wrapB _)) ?_
  refine J.newSlice S10 33 1 [.int .u8 (((u64F i.gK) / 1099511627776) % 256)] 5 (by kernel_rfl) ?_
  intro b5 w8 S11
  refine J.append (enc1 (Value.int .u8)) S11 1 ((([i.gOp % 256, i.gA % 256, i.gB % 256, i.gC % 256]) ++ [((u64F i.gK) / 72057594037927936) % 256]) ++ [((u64F i.gK) / 281474976710656) % 256]) (((u64F i.gK) / 1099511627776) % 256) 34 24 (.int .u8 0) 1 ⟨b5, 0, none⟩ 1 rfl (by kernel_rfl) (by kernel_rfl) (by kernel_rfl) (by kernel_rfl) (by decide) (box_cells (S11.nth 0 rfl)) (by kernel_rfl) (by kernel_rfl) (⟨by (try simp only [List.length_append, List.length_cons, List.length_nil]); omega, by (try simp only [List.length_append, List.length_cons, List.length_nil]); omega⟩) ?_
  intro ra3 rc3 w9 S12
  replace S12 : Sep w [box b5 [.int .u8 (((u64F i.gK) / 1099511627776) % 256)] 5, rowOf (enc1 (Value.int .u8)) ra3 rc3 5 1 (((([i.gOp % 256, i.gA % 256, i.gB % 256, i.gC % 256]) ++ [((u64F i.gK) / 72057594037927936) % 256]) ++ [((u64F i.gK) / 281474976710656) % 256]) ++ [((u64F i.gK) / 1099511627776) % 256]), box b1 [.int .i64 i.gOp, .int .i64 i.gA, .int .i64 i.gB, .int .i64 i.gC, .int .i64 i.gK] 23] w9 := S12
  have S13 : Sep w [rowOf (enc1 (Value.int .u8)) ra3 rc3 5 1 (((([i.gOp % 256, i.gA % 256, i.gB % 256, i.gC % 256]) ++ [((u64F i.gK) / 72057594037927936) % 256]) ++ [((u64F i.gK) / 281474976710656) % 256]) ++ [((u64F i.gK) / 1099511627776) % 256]), box b1 [.int .i64 i.gOp, .int .i64 i.gA, .int .i64 i.gB, .int .i64 i.gC, .int .i64 i.gK] 23] w9 := S12.erase 0
  clear S12
  refine J.run 9 K5_25 [(5, .int .i64 32), (4, .slice ra3 ((((([i.gOp % 256, i.gA % 256, i.gB % 256, i.gC % 256]) ++ [((u64F i.gK) / 72057594037927936) % 256]) ++ [((u64F i.gK) / 281474976710656) % 256]) ++ [((u64F i.gK) / 1099511627776) % 256]).length) rc3), (1, .pointer (some ⟨b1, 0, none⟩))] w9 (by kernel_rfl) ?_
  refine J.run 13 K5_26 [(27, .pointer (some ⟨b1, 4, none⟩)), (26, .slice ra3 ((((([i.gOp % 256, i.gA % 256, i.gB % 256, i.gC % 256]) ++ [((u64F i.gK) / 72057594037927936) % 256]) ++ [((u64F i.gK) / 281474976710656) % 256]) ++ [((u64F i.gK) / 1099511627776) % 256]).length) rc3), (5, .int .i64 32), (1, .pointer (some ⟨b1, 0, none⟩))] w9 (by kernel_rfl) ?_
  refine J.ok (OK.ldBox S13 1 28 3 4 (.int .i64 i.gK) (by kernel_rfl) rfl (by kernel_rfl)) ?_
  refine J.run 1 K5_27 [(29, .int .u64 (IntKind.wrap .u64 i.gK)), (26, .slice ra3 ((((([i.gOp % 256, i.gA % 256, i.gB % 256, i.gC % 256]) ++ [((u64F i.gK) / 72057594037927936) % 256]) ++ [((u64F i.gK) / 281474976710656) % 256]) ++ [((u64F i.gK) / 1099511627776) % 256]).length) rc3), (5, .int .i64 32), (1, .pointer (some ⟨b1, 0, none⟩))] w9 (by kernel_rfl) ?_
  refine J.head (.int .u64 (u64F i.gK)) (congrArg (Value.int .u64) (wrapU _)) ?_
  refine J.run 2 K5_28 [(31, .int .u64 (Int.fdiv (u64F i.gK) (2 ^ 32))), (26, .slice ra3 ((((([i.gOp % 256, i.gA % 256, i.gB % 256, i.gC % 256]) ++ [((u64F i.gK) / 72057594037927936) % 256]) ++ [((u64F i.gK) / 281474976710656) % 256]) ++ [((u64F i.gK) / 1099511627776) % 256]).length) rc3), (5, .int .i64 32), (1, .pointer (some ⟨b1, 0, none⟩))] w9 (by kernel_rfl) ?_
  refine J.head (.int .u64 ((u64F i.gK) / 4294967296)) (congrArg (Value.int .u64) (shr_lit _ _ (by decide))) ?_
  refine J.run 1 K5_29 [(32, .int .u8 (IntKind.wrap .u8 ((u64F i.gK) / 4294967296))), (26, .slice ra3 ((((([i.gOp % 256, i.gA % 256, i.gB % 256, i.gC % 256]) ++ [((u64F i.gK) / 72057594037927936) % 256]) ++ [((u64F i.gK) / 281474976710656) % 256]) ++ [((u64F i.gK) / 1099511627776) % 256]).length) rc3), (5, .int .i64 32), (1, .pointer (some ⟨b1, 0, none⟩))] w9 (by kernel_rfl) ?_
  refine J.head (.int .u8 (((u64F i.gK) / 4294967296) % 256)) (congrArg (Value.int .u8) (wrapB _)) ?_
  refine J.newSlice S13 33 1 [.int .u8 (((u64F i.gK) / 4294967296) % 256)] 5 (by kernel_rfl) ?_
  intro b6 w10 S14
  refine J.append (enc1 (Value.int .u8)) S14 1 (((([i.gOp % 256, i.gA % 256, i.gB % 256, i.gC % 256]) ++ [((u64F i.gK) / 72057594037927936) % 256]) ++ [((u64F i.gK) / 281474976710656) % 256]) ++ [((u64F i.gK) / 1099511627776) % 256]) (((u64F i.gK) / 4294967296) % 256) 34 24 (.int .u8 0) 1 ⟨b6, 0, none⟩ 1 rfl (by kernel_rfl) (by kernel_rfl) (by kernel_rfl) (by kernel_rfl) (by decide) (box_cells (S14.nth 0 rfl)) (by kernel_rfl) (by kernel_rfl) (⟨by (try simp only [List.length_append, List.length_cons, List.length_nil]); omega, by (try simp only [List.length_append, List.length_cons, List.length_nil]); omega⟩) ?_
  intro ra4 rc4 w11 S15
  replace S15 : Sep w [box b6 [.int .u8 (((u64F i.gK) / 4294967296) % 256)] 5, rowOf (enc1 (Value.int .u8)) ra4 rc4 5 1 ((((([i.gOp % 256, i.gA % 256, i.gB % 256, i.gC % 256]) ++ [((u64F i.gK) / 72057594037927936) % 256]) ++ [((u64F i.gK) / 281474976710656) % 256]) ++ [((u64F i.gK) / 1099511627776) % 256]) ++ [((u64F i.gK) / 4294967296) % 256]), box b1 [.int .i64 i.gOp, .int .i64 i.gA, .int .i64 i.gB, .int .i64 i.gC, .int .i64 i.gK] 23] w11 := S15
  have S16 : Sep w [rowOf (enc1 (Value.int .u8)) ra4 rc4 5 1 ((((([i.gOp % 256, i.gA % 256, i.gB % 256, i.gC % 256]) ++ [((u64F i.gK) / 72057594037927936) % 256]) ++ [((u64F i.gK) / 281474976710656) % 256]) ++ [((u64F i.gK) / 1099511627776) % 256]) ++ [((u64F i.gK) / 4294967296) % 256]), box b1 [.int .i64 i.gOp, .int .i64 i.gA, .int .i64 i.gB, .int .i64 i.gC, .int .i64 i.gK] 23] w11 := S15.erase 0
  clear S15
  refine J.run 9 K5_30 [(5, .int .i64 24), (4, .slice ra4 (((((([i.gOp % 256, i.gA % 256, i.gB % 256, i.gC % 256]) ++ [((u64F i.gK) / 72057594037927936) % 256]) ++ [((u64F i.gK) / 281474976710656) % 256]) ++ [((u64F i.gK) / 1099511627776) % 256]) ++ [((u64F i.gK) / 4294967296) % 256]).length) rc4), (1, .pointer (some ⟨b1, 0, none⟩))] w11 (by kernel_rfl) ?_
  refine J.run 13 K5_31 [(27, .pointer (some ⟨b1, 4, none⟩)), (26, .slice ra4 (((((([i.gOp % 256, i.gA % 256, i.gB % 256, i.gC % 256]) ++ [((u64F i.gK) / 72057594037927936) % 256]) ++ [((u64F i.gK) / 281474976710656) % 256]) ++ [((u64F i.gK) / 1099511627776) % 256]) ++ [((u64F i.gK) / 4294967296) % 256]).length) rc4), (5, .int .i64 24), (1, .pointer (some ⟨b1, 0, none⟩))] w11 (by kernel_rfl) ?_
  refine J.ok (OK.ldBox S16 1 28 3 4 (.int .i64 i.gK) (by kernel_rfl) rfl (by kernel_rfl)) ?_
  refine J.run 1 K5_32 [(29, .int .u64 (IntKind.wrap .u64 i.gK)), (26, .slice ra4 (((((([i.gOp % 256, i.gA % 256, i.gB % 256, i.gC % 256]) ++ [((u64F i.gK) / 72057594037927936) % 256]) ++ [((u64F i.gK) / 281474976710656) % 256]) ++ [((u64F i.gK) / 1099511627776) % 256]) ++ [((u64F i.gK) / 4294967296) % 256]).length) rc4), (5, .int .i64 24), (1, .pointer (some ⟨b1, 0, none⟩))] w11 (by kernel_rfl) ?_
  refine J.head (.int .u64 (u64F i.gK)) (congrArg (Value.int .u64) (wrapU _)) ?_
  refine J.run 2 K5_33 [(31, .int .u64 (Int.fdiv (u64F i.gK) (2 ^ 24))), (26, .slice ra4 (((((([i.gOp % 256, i.gA % 256, i.gB % 256, i.gC % 256]) ++ [((u64F i.gK) / 72057594037927936) % 256]) ++ [((u64F i.gK) / 281474976710656) % 256]) ++ [((u64F i.gK) / 1099511627776) % 256]) ++ [((u64F i.gK) / 4294967296) % 256]).length) rc4), (5, .int .i64 24), (1, .pointer (some ⟨b1, 0, none⟩))] w11 (by kernel_rfl) ?_
  refine J.head (.int .u64 ((u64F i.gK) / 16777216)) (congrArg (Value.int .u64) (shr_lit _ _ (by decide))) ?_
  refine J.run 1 K5_34 [(32, .int .u8 (IntKind.wrap .u8 ((u64F i.gK) / 16777216))), (26, .slice ra4 (((((([i.gOp % 256, i.gA % 256, i.gB % 256, i.gC % 256]) ++ [((u64F i.gK) / 72057594037927936) % 256]) ++ [((u64F i.gK) / 281474976710656) % 256]) ++ [((u64F i.gK) / 1099511627776) % 256]) ++ [((u64F i.gK) / 4294967296) % 256]).length) rc4), (5, .int .i64 24), (1, .pointer (some ⟨b1, 0, none⟩))] w11 (by kernel_rfl) ?_
  refine J.head (.int .u8 (((u64F i.gK) / 16777216) % 256)) (congrArg (Value.int .u8) (wrapB _)) ?_
  refine J.newSlice S16 33 1 [.int .u8 (((u64F i.gK) / 16777216) % 256)] 5 (by kernel_rfl) ?_
  intro b7 w12 S17
  refine J.append (enc1 (Value.int .u8)) S17 1 ((((([i.gOp % 256, i.gA % 256, i.gB % 256, i.gC % 256]) ++ [((u64F i.gK) / 72057594037927936) % 256]) ++ [((u64F i.gK) / 281474976710656) % 256]) ++ [((u64F i.gK) / 1099511627776) % 256]) ++ [((u64F i.gK) / 4294967296) % 256]) (((u64F i.gK) / 16777216) % 256) 34 24 (.int .u8 0) 1 ⟨b7, 0, none⟩ 1 rfl (by kernel_rfl) (by kernel_rfl) (by kernel_rfl) (by kernel_rfl) (by decide) (box_cells (S17.nth 0 rfl)) (by kernel_rfl) (by kernel_rfl) (⟨by (try simp only [List.length_append, List.length_cons, List.length_nil]); omega, by (try simp only [List.length_append, List.length_cons, List.length_nil]); omega⟩) ?_
  intro ra5 rc5 w13 S18
  replace S18 : Sep w [box b7 [.int .u8 (((u64F i.gK) / 16777216) % 256)] 5, rowOf (enc1 (Value.int .u8)) ra5 rc5 5 1 (((((([i.gOp % 256, i.gA % 256, i.gB % 256, i.gC % 256]) ++ [((u64F i.gK) / 72057594037927936) % 256]) ++ [((u64F i.gK) / 281474976710656) % 256]) ++ [((u64F i.gK) / 1099511627776) % 256]) ++ [((u64F i.gK) / 4294967296) % 256]) ++ [((u64F i.gK) / 16777216) % 256]), box b1 [.int .i64 i.gOp, .int .i64 i.gA, .int .i64 i.gB, .int .i64 i.gC, .int .i64 i.gK] 23] w13 := S18
  have S19 : Sep w [rowOf (enc1 (Value.int .u8)) ra5 rc5 5 1 (((((([i.gOp % 256, i.gA % 256, i.gB % 256, i.gC % 256]) ++ [((u64F i.gK) / 72057594037927936) % 256]) ++ [((u64F i.gK) / 281474976710656) % 256]) ++ [((u64F i.gK) / 1099511627776) % 256]) ++ [((u64F i.gK) / 4294967296) % 256]) ++ [((u64F i.gK) / 16777216) % 256]), box b1 [.int .i64 i.gOp, .int .i64 i.gA, .int .i64 i.gB, .int .i64 i.gC, .int .i64 i.gK] 23] w13 := S18.erase 0
  clear S18
  refine J.run 9 K5_35 [(5, .int .i64 16), (4, .slice ra5 ((((((([i.gOp % 256, i.gA % 256, i.gB % 256, i.gC % 256]) ++ [((u64F i.gK) / 72057594037927936) % 256]) ++ [((u64F i.gK) / 281474976710656) % 256]) ++ [((u64F i.gK) / 1099511627776) % 256]) ++ [((u64F i.gK) / 4294967296) % 256]) ++ [((u64F i.gK) / 16777216) % 256]).length) rc5), (1, .pointer (some ⟨b1, 0, none⟩))] w13 (by kernel_rfl) ?_
  refine J.run 13 K5_36 [(27, .pointer (some ⟨b1, 4, none⟩)), (26, .slice ra5 ((((((([i.gOp % 256, i.gA % 256, i.gB % 256, i.gC % 256]) ++ [((u64F i.gK) / 72057594037927936) % 256]) ++ [((u64F i.gK) / 281474976710656) % 256]) ++ [((u64F i.gK) / 1099511627776) % 256]) ++ [((u64F i.gK) / 4294967296) % 256]) ++ [((u64F i.gK) / 16777216) % 256]).length) rc5), (5, .int .i64 16), (1, .pointer (some ⟨b1, 0, none⟩))] w13 (by kernel_rfl) ?_
  refine J.ok (OK.ldBox S19 1 28 3 4 (.int .i64 i.gK) (by kernel_rfl) rfl (by kernel_rfl)) ?_
  refine J.run 1 K5_37 [(29, .int .u64 (IntKind.wrap .u64 i.gK)), (26, .slice ra5 ((((((([i.gOp % 256, i.gA % 256, i.gB % 256, i.gC % 256]) ++ [((u64F i.gK) / 72057594037927936) % 256]) ++ [((u64F i.gK) / 281474976710656) % 256]) ++ [((u64F i.gK) / 1099511627776) % 256]) ++ [((u64F i.gK) / 4294967296) % 256]) ++ [((u64F i.gK) / 16777216) % 256]).length) rc5), (5, .int .i64 16), (1, .pointer (some ⟨b1, 0, none⟩))] w13 (by kernel_rfl) ?_
  refine J.head (.int .u64 (u64F i.gK)) (congrArg (Value.int .u64) (wrapU _)) ?_
  refine J.run 2 K5_38 [(31, .int .u64 (Int.fdiv (u64F i.gK) (2 ^ 16))), (26, .slice ra5 ((((((([i.gOp % 256, i.gA % 256, i.gB % 256, i.gC % 256]) ++ [((u64F i.gK) / 72057594037927936) % 256]) ++ [((u64F i.gK) / 281474976710656) % 256]) ++ [((u64F i.gK) / 1099511627776) % 256]) ++ [((u64F i.gK) / 4294967296) % 256]) ++ [((u64F i.gK) / 16777216) % 256]).length) rc5), (5, .int .i64 16), (1, .pointer (some ⟨b1, 0, none⟩))] w13 (by kernel_rfl) ?_
  refine J.head (.int .u64 ((u64F i.gK) / 65536)) (congrArg (Value.int .u64) (shr_lit _ _ (by decide))) ?_
  refine J.run 1 K5_39 [(32, .int .u8 (IntKind.wrap .u8 ((u64F i.gK) / 65536))), (26, .slice ra5 ((((((([i.gOp % 256, i.gA % 256, i.gB % 256, i.gC % 256]) ++ [((u64F i.gK) / 72057594037927936) % 256]) ++ [((u64F i.gK) / 281474976710656) % 256]) ++ [((u64F i.gK) / 1099511627776) % 256]) ++ [((u64F i.gK) / 4294967296) % 256]) ++ [((u64F i.gK) / 16777216) % 256]).length) rc5), (5, .int .i64 16), (1, .pointer (some ⟨b1, 0, none⟩))] w13 (by kernel_rfl) ?_
  refine J.head (.int .u8 (((u64F i.gK) / 65536) % 256)) (congrArg (Value.int .u8) (wrapB _)) ?_
  refine J.newSlice S19 33 1 [.int .u8 (((u64F i.gK) / 65536) % 256)] 5 (by kernel_rfl) ?_
  intro b8 w14 S20
  refine J.append (enc1 (Value.int .u8)) S20 1 (((((([i.gOp % 256, i.gA % 256, i.gB % 256, i.gC % 256]) ++ [((u64F i.gK) / 72057594037927936) % 256]) ++ [((u64F i.gK) / 281474976710656) % 256]) ++ [((u64F i.gK) / 1099511627776) % 256]) ++ [((u64F i.gK) / 4294967296) % 256]) ++ [((u64F i.gK) / 16777216) % 256]) (((u64F i.gK) / 65536) % 256) 34 24 (.int .u8 0) 1 ⟨b8, 0, none⟩ 1 rfl (by kernel_rfl) (by kernel_rfl) (by kernel_rfl) (by kernel_rfl) (by decide) (box_cells (S20.nth 0 rfl)) (by kernel_rfl) (by kernel_rfl) (⟨by (try simp only [List.length_append, List.length_cons, List.length_nil]); omega, by (try simp only [List.length_append, List.length_cons, List.length_nil]); omega⟩) ?_
  intro ra6 rc6 w15 S21
  replace S21 : Sep w [box b8 [.int .u8 (((u64F i.gK) / 65536) % 256)] 5, rowOf (enc1 (Value.int .u8)) ra6 rc6 5 1 ((((((([i.gOp % 256, i.gA % 256, i.gB % 256, i.gC % 256]) ++ [((u64F i.gK) / 72057594037927936) % 256]) ++ [((u64F i.gK) / 281474976710656) % 256]) ++ [((u64F i.gK) / 1099511627776) % 256]) ++ [((u64F i.gK) / 4294967296) % 256]) ++ [((u64F i.gK) / 16777216) % 256]) ++ [((u64F i.gK) / 65536) % 256]), box b1 [.int .i64 i.gOp, .int .i64 i.gA, .int .i64 i.gB, .int .i64 i.gC, .int .i64 i.gK] 23] w15 := S21
  have S22 : Sep w [rowOf (enc1 (Value.int .u8)) ra6 rc6 5 1 ((((((([i.gOp % 256, i.gA % 256, i.gB % 256, i.gC % 256]) ++ [((u64F i.gK) / 72057594037927936) % 256]) ++ [((u64F i.gK) / 281474976710656) % 256]) ++ [((u64F i.gK) / 1099511627776) % 256]) ++ [((u64F i.gK) / 4294967296) % 256]) ++ [((u64F i.gK) / 16777216) % 256]) ++ [((u64F i.gK) / 65536) % 256]), box b1 [.int .i64 i.gOp, .int .i64 i.gA, .int .i64 i.gB, .int .i64 i.gC, .int .i64 i.gK] 23] w15 := S21.erase 0
  clear S21
  refine J.run 9 K5_40 [(5, .int .i64 8), (4, .slice ra6 (((((((([i.gOp % 256, i.gA % 256, i.gB % 256, i.gC % 256]) ++ [((u64F i.gK) / 72057594037927936) % 256]) ++ [((u64F i.gK) / 281474976710656) % 256]) ++ [((u64F i.gK) / 1099511627776) % 256]) ++ [((u64F i.gK) / 4294967296) % 256]) ++ [((u64F i.gK) / 16777216) % 256]) ++ [((u64F i.gK) / 65536) % 256]).length) rc6), (1, .pointer (some ⟨b1, 0, none⟩))] w15 (by kernel_rfl) ?_
  refine J.run 13 K5_41 [(27, .pointer (some ⟨b1, 4, none⟩)), (26, .slice ra6 (((((((([i.gOp % 256, i.gA % 256, i.gB % 256, i.gC % 256]) ++ [((u64F i.gK) / 72057594037927936) % 256]) ++ [((u64F i.gK) / 281474976710656) % 256]) ++ [((u64F i.gK) / 1099511627776) % 256]) ++ [((u64F i.gK) / 4294967296) % 256]) ++ [((u64F i.gK) / 16777216) % 256]) ++ [((u64F i.gK) / 65536) % 256]).length) rc6), (5, .int .i64 8), (1, .pointer (some ⟨b1, 0, none⟩))] w15 (by kernel_rfl) ?_
  refine J.ok (OK.ldBox S22 1 28 3 4 (.int .i64 i.gK) (by kernel_rfl) rfl (by kernel_rfl)) ?_
  refine J.run 1 K5_42 [(29, .int .u64 (IntKind.wrap .u64 i.gK)), (26, .slice ra6 (((((((([i.gOp % 256, i.gA % 256, i.gB % 256, i.gC % 256]) ++ [((u64F i.gK) / 72057594037927936) % 256]) ++ [((u64F i.gK) / 281474976710656) % 256]) ++ [((u64F i.gK) / 1099511627776) % 256]) ++ [((u64F i.gK) / 4294967296) % 256]) ++ [((u64F i.gK) / 16777216) % 256]) ++ [((u64F i.gK) / 65536) % 256]).length) rc6), (5, .int .i64 8), (1, .pointer (some ⟨b1, 0, none⟩))] w15 (by kernel_rfl) ?_
  refine J.head (.int .u64 (u64F i.gK)) (congrArg (Value.int .u64) (wrapU _)) ?_
  refine J.run 2 K5_43 [(31, .int .u64 (Int.fdiv (u64F i.gK) (2 ^ 8))), (26, .slice ra6 (((((((([i.gOp % 256, i.gA % 256, i.gB % 256, i.gC % 256]) ++ [((u64F i.gK) / 72057594037927936) % 256]) ++ [((u64F i.gK) / 281474976710656) % 256]) ++ [((u64F i.gK) / 1099511627776) % 256]) ++ [((u64F i.gK) / 4294967296) % 256]) ++ [((u64F i.gK) / 16777216) % 256]) ++ [((u64F i.gK) / 65536) % 256]).length) rc6), (5, .int .i64 8), (1, .pointer (some ⟨b1, 0, none⟩))] w15 (by kernel_rfl) ?_
  refine J.head (.int .u64 ((u64F i.gK) / 256)) (congrArg (Value.int .u64) (shr_lit _ _ (by decide))) ?_
  refine J.run 1 K5_44 [(32, .int .u8 (IntKind.wrap .u8 ((u64F i.gK) / 256))), (26, .slice ra6 (((((((([i.gOp % 256, i.gA % 256, i.gB % 256, i.gC % 256]) ++ [((u64F i.gK) / 72057594037927936) % 256]) ++ [((u64F i.gK) / 281474976710656) % 256]) ++ [((u64F i.gK) / 1099511627776) % 256]) ++ [((u64F i.gK) / 4294967296) % 256]) ++ [((u64F i.gK) / 16777216) % 256]) ++ [((u64F i.gK) / 65536) % 256]).length) rc6), (5, .int .i64 8), (1, .pointer (some ⟨b1, 0, none⟩))] w15 (by kernel_rfl) ?_
  refine J.head (.int .u8 (((u64F i.gK) / 256) % 256)) (congrArg (Value.int .u8) (wrapB _)) ?_
  refine J.newSlice S22 33 1 [.int .u8 (((u64F i.gK) / 256) % 256)] 5 (by kernel_rfl) ?_
  intro b9 w16 S23
  refine J.append (enc1 (Value.int .u8)) S23 1 ((((((([i.gOp % 256, i.gA % 256, i.gB % 256, i.gC % 256]) ++ [((u64F i.gK) / 72057594037927936) % 256]) ++ [((u64F i.gK) / 281474976710656) % 256]) ++ [((u64F i.gK) / 1099511627776) % 256]) ++ [((u64F i.gK) / 4294967296) % 256]) ++ [((u64F i.gK) / 16777216) % 256]) ++ [((u64F i.gK) / 65536) % 256]) (((u64F i.gK) / 256) % 256) 34 24 (.int .u8 0) 1 ⟨b9, 0, none⟩ 1 rfl (by kernel_rfl) (by kernel_rfl) (by kernel_rfl) (by kernel_rfl) (by decide) (box_cells (S23.nth 0 rfl)) (by kernel_rfl) (by kernel_rfl) (⟨by (try simp only [List.length_append, List.length_cons, List.length_nil]); omega, by (try simp only [List.length_append, List.length_cons, List.length_nil]); omega⟩) ?_
  intro ra7 rc7 w17 S24
  replace S24 : Sep w [box b9 [.int .u8 (((u64F i.gK) / 256) % 256)] 5, rowOf (enc1 (Value.int .u8)) ra7 rc7 5 1 (((((((([i.gOp % 256, i.gA % 256, i.gB % 256, i.gC % 256]) ++ [((u64F i.gK) / 72057594037927936) % 256]) ++ [((u64F i.gK) / 281474976710656) % 256]) ++ [((u64F i.gK) / 1099511627776) % 256]) ++ [((u64F i.gK) / 4294967296) % 256]) ++ [((u64F i.gK) / 16777216) % 256]) ++ [((u64F i.gK) / 65536) % 256]) ++ [((u64F i.gK) / 256) % 256]), box b1 [.int .i64 i.gOp, .int .i64 i.gA, .int .i64 i.gB, .int .i64 i.gC, .int .i64 i.gK] 23] w17 := S24
  have S25 : Sep w [rowOf (enc1 (Value.int .u8)) ra7 rc7 5 1 (((((((([i.gOp % 256, i.gA % 256, i.gB % 256, i.gC % 256]) ++ [((u64F i.gK) / 72057594037927936) % 256]) ++ [((u64F i.gK) / 281474976710656) % 256]) ++ [((u64F i.gK) / 1099511627776) % 256]) ++ [((u64F i.gK) / 4294967296) % 256]) ++ [((u64F i.gK) / 16777216) % 256]) ++ [((u64F i.gK) / 65536) % 256]) ++ [((u64F i.gK) / 256) % 256]), box b1 [.int .i64 i.gOp, .int .i64 i.gA, .int .i64 i.gB, .int .i64 i.gC, .int .i64 i.gK] 23] w17 := S24.erase 0
  clear S24
  refine J.run 9 K5_45 [(5, .int .i64 0), (4, .slice ra7 ((((((((([i.gOp % 256, i.gA % 256, i.gB % 256, i.gC % 256]) ++ [((u64F i.gK) / 72057594037927936) % 256]) ++ [((u64F i.gK) / 281474976710656) % 256]) ++ [((u64F i.gK) / 1099511627776) % 256]) ++ [((u64F i.gK) / 4294967296) % 256]) ++ [((u64F i.gK) / 16777216) % 256]) ++ [((u64F i.gK) / 65536) % 256]) ++ [((u64F i.gK) / 256) % 256]).length) rc7), (1, .pointer (some ⟨b1, 0, none⟩))] w17 (by kernel_rfl) ?_
  refine J.run 13 K5_46 [(27, .pointer (some ⟨b1, 4, none⟩)), (26, .slice ra7 ((((((((([i.gOp % 256, i.gA % 256, i.gB % 256, i.gC % 256]) ++ [((u64F i.gK) / 72057594037927936) % 256]) ++ [((u64F i.gK) / 281474976710656) % 256]) ++ [((u64F i.gK) / 1099511627776) % 256]) ++ [((u64F i.gK) / 4294967296) % 256]) ++ [((u64F i.gK) / 16777216) % 256]) ++ [((u64F i.gK) / 65536) % 256]) ++ [((u64F i.gK) / 256) % 256]).length) rc7), (5, .int .i64 0), (1, .pointer (some ⟨b1, 0, none⟩))] w17 (by kernel_rfl) ?_
  refine J.ok (OK.ldBox S25 1 28 3 4 (.int .i64 i.gK) (by kernel_rfl) rfl (by kernel_rfl)) ?_
  refine J.run 1 K5_47 [(29, .int .u64 (IntKind.wrap .u64 i.gK)), (26, .slice ra7 ((((((((([i.gOp % 256, i.gA % 256, i.gB % 256, i.gC % 256]) ++ [((u64F i.gK) / 72057594037927936) % 256]) ++ [((u64F i.gK) / 281474976710656) % 256]) ++ [((u64F i.gK) / 1099511627776) % 256]) ++ [((u64F i.gK) / 4294967296) % 256]) ++ [((u64F i.gK) / 16777216) % 256]) ++ [((u64F i.gK) / 65536) % 256]) ++ [((u64F i.gK) / 256) % 256]).length) rc7), (5, .int .i64 0), (1, .pointer (some ⟨b1, 0, none⟩))] w17 (by kernel_rfl) ?_
  refine J.head (.int .u64 (u64F i.gK)) (congrArg (Value.int .u64) (wrapU _)) ?_
  refine J.run 2 K5_48 [(31, .int .u64 (Int.fdiv (u64F i.gK) (2 ^ 0))), (26, .slice ra7 ((((((((([i.gOp % 256, i.gA % 256, i.gB % 256, i.gC % 256]) ++ [((u64F i.gK) / 72057594037927936) % 256]) ++ [((u64F i.gK) / 281474976710656) % 256]) ++ [((u64F i.gK) / 1099511627776) % 256]) ++ [((u64F i.gK) / 4294967296) % 256]) ++ [((u64F i.gK) / 16777216) % 256]) ++ [((u64F i.gK) / 65536) % 256]) ++ [((u64F i.gK) / 256) % 256]).length) rc7), (5, .int .i64 0), (1, .pointer (some ⟨b1, 0, none⟩))] w17 (by kernel_rfl) ?_
  refine J.head (.int .u64 ((u64F i.gK) / 1)) (congrArg (Value.int .u64) (shr_lit _ _ (by decide))) ?_
  refine J.run 1 K5_49 [(32, .int .u8 (IntKind.wrap .u8 ((u64F i.gK) / 1))), (26, .slice ra7 ((((((((([i.gOp % 256, i.gA % 256, i.gB % 256, i.gC % 256]) ++ [((u64F i.gK) / 72057594037927936) % 256]) ++ [((u64F i.gK) / 281474976710656) % 256]) ++ [((u64F i.gK) / 1099511627776) % 256]) ++ [((u64F i.gK) / 4294967296) % 256]) ++ [((u64F i.gK) / 16777216) % 256]) ++ [((u64F i.gK) / 65536) % 256]) ++ [((u64F i.gK) / 256) % 256]).length) rc7), (5, .int .i64 0), (1, .pointer (some ⟨b1, 0, none⟩))] w17 (by kernel_rfl) ?_
  refine J.head (.int .u8 (((u64F i.gK) / 1) % 256)) (congrArg (Value.int .u8) (wrapB _)) ?_
  refine J.newSlice S25 33 1 [.int .u8 (((u64F i.gK) / 1) % 256)] 5 (by kernel_rfl) ?_
  intro b10 w18 S26
  refine J.append (enc1 (Value.int .u8)) S26 1 (((((((([i.gOp % 256, i.gA % 256, i.gB % 256, i.gC % 256]) ++ [((u64F i.gK) / 72057594037927936) % 256]) ++ [((u64F i.gK) / 281474976710656) % 256]) ++ [((u64F i.gK) / 1099511627776) % 256]) ++ [((u64F i.gK) / 4294967296) % 256]) ++ [((u64F i.gK) / 16777216) % 256]) ++ [((u64F i.gK) / 65536) % 256]) ++ [((u64F i.gK) / 256) % 256]) (((u64F i.gK) / 1) % 256) 34 24 (.int .u8 0) 1 ⟨b10, 0, none⟩ 1 rfl (by kernel_rfl) (by kernel_rfl) (by kernel_rfl) (by kernel_rfl) (by decide) (box_cells (S26.nth 0 rfl)) (by kernel_rfl) (by kernel_rfl) (⟨by (try simp only [List.length_append, List.length_cons, List.length_nil]); omega, by (try simp only [List.length_append, List.length_cons, List.length_nil]); omega⟩) ?_
  intro ra8 rc8 w19 S27
  replace S27 : Sep w [box b10 [.int .u8 (((u64F i.gK) / 1) % 256)] 5, rowOf (enc1 (Value.int .u8)) ra8 rc8 5 1 ((((((((([i.gOp % 256, i.gA % 256, i.gB % 256, i.gC % 256]) ++ [((u64F i.gK) / 72057594037927936) % 256]) ++ [((u64F i.gK) / 281474976710656) % 256]) ++ [((u64F i.gK) / 1099511627776) % 256]) ++ [((u64F i.gK) / 4294967296) % 256]) ++ [((u64F i.gK) / 16777216) % 256]) ++ [((u64F i.gK) / 65536) % 256]) ++ [((u64F i.gK) / 256) % 256]) ++ [((u64F i.gK) / 1) % 256]), box b1 [.int .i64 i.gOp, .int .i64 i.gA, .int .i64 i.gB, .int .i64 i.gC, .int .i64 i.gK] 23] w19 := S27
  have S28 : Sep w [rowOf (enc1 (Value.int .u8)) ra8 rc8 5 1 ((((((((([i.gOp % 256, i.gA % 256, i.gB % 256, i.gC % 256]) ++ [((u64F i.gK) / 72057594037927936) % 256]) ++ [((u64F i.gK) / 281474976710656) % 256]) ++ [((u64F i.gK) / 1099511627776) % 256]) ++ [((u64F i.gK) / 4294967296) % 256]) ++ [((u64F i.gK) / 16777216) % 256]) ++ [((u64F i.gK) / 65536) % 256]) ++ [((u64F i.gK) / 256) % 256]) ++ [((u64F i.gK) / 1) % 256]), box b1 [.int .i64 i.gOp, .int .i64 i.gA, .int .i64 i.gB, .int .i64 i.gC, .int .i64 i.gK] 23] w19 := S27.erase 0
  clear S27
  refine J.run 9 K5_50 [(5, .int .i64 (-8)), (4, .slice ra8 (((((((((([i.gOp % 256, i.gA % 256, i.gB % 256, i.gC % 256]) ++ [((u64F i.gK) / 72057594037927936) % 256]) ++ [((u64F i.gK) / 281474976710656) % 256]) ++ [((u64F i.gK) / 1099511627776) % 256]) ++ [((u64F i.gK) / 4294967296) % 256]) ++ [((u64F i.gK) / 16777216) % 256]) ++ [((u64F i.gK) / 65536) % 256]) ++ [((u64F i.gK) / 256) % 256]) ++ [((u64F i.gK) / 1) % 256]).length) rc8), (1, .pointer (some ⟨b1, 0, none⟩))] w19 (by kernel_rfl) ?_
  refine J.run 14 K5_51 [(3, .int .i64 0), (2, .slice ra8 (((((((((([i.gOp % 256, i.gA % 256, i.gB % 256, i.gC % 256]) ++ [((u64F i.gK) / 72057594037927936) % 256]) ++ [((u64F i.gK) / 281474976710656) % 256]) ++ [((u64F i.gK) / 1099511627776) % 256]) ++ [((u64F i.gK) / 4294967296) % 256]) ++ [((u64F i.gK) / 16777216) % 256]) ++ [((u64F i.gK) / 65536) % 256]) ++ [((u64F i.gK) / 256) % 256]) ++ [((u64F i.gK) / 1) % 256]).length) rc8)] w19 (by kernel_rfl) ?_
  refine J.ret Tryd.f5 [.slice ra8 (((((((((([i.gOp % 256, i.gA % 256, i.gB % 256, i.gC % 256]) ++ [((u64F i.gK) / 72057594037927936) % 256]) ++ [((u64F i.gK) / 281474976710656) % 256]) ++ [((u64F i.gK) / 1099511627776) % 256]) ++ [((u64F i.gK) / 4294967296) % 256]) ++ [((u64F i.gK) / 16777216) % 256]) ++ [((u64F i.gK) / 65536) % 256]) ++ [((u64F i.gK) / 256) % 256]) ++ [((u64F i.gK) / 1) % 256]).length) rc8, .int .i64 0] Tryd.func5 ⟨by kernel_rfl, by kernel_rfl, trivial⟩ ?_
  refine hR _ _ ?_
  obtain ⟨e1, e2⟩ := encX_yes (i := i) fk1
  exact ⟨_, _, by rw [e1, e2]; rfl, by rw [e1]; exact S28.pick 0 rfl⟩
 ·skip
  refine J.head (.bool true) (congrArg Value.bool (by rw [fk1]; rfl)) ?_
  refine J.run 6 K5_52 [(3, .int .i64 1), (2, .slice none 0 0)] w2 (by kernel_rfl) ?_
  refine J.ret Tryd.f5 [.slice none 0 0, .int .i64 1] Tryd.func5 ⟨by kernel_rfl, by kernel_rfl, trivial⟩ ?_
  refine hR _ _ ?_
  obtain ⟨e1, e2⟩ := encX_no (i := i) fk1
  exact ⟨none, 0, by rw [e1, e2]; rfl, by rw [e1]; exact S2.nil.nilRow 5 1⟩

theorem hb11 : HasBody Tryd.prog 11 := fun _ _ => by kernel_rfl
noncomputable def K11_0 : List Item := adv 2 [] (bodyOf Tryd.f11)
noncomputable def K11_1 : List Item := adv 5 [] (popK K11_0)
noncomputable def K11_2 : List Item := adv 1 [] (popK K11_1)
noncomputable def K11_3 : List Item := adv 1 [] K11_2
noncomputable def K11_4 : List Item := adv 1 [] (popK K11_3)
noncomputable def K11_5 : List Item := adv 1 [] K11_4
noncomputable def K11_6 : List Item := adv 1 [] (popK K11_5)
noncomputable def K11_7 : List Item := adv 1 [] K11_6
noncomputable def K11_8 : List Item := adv 1 [] (popK K11_7)
noncomputable def K11_9 : List Item := adv 22 [true] (popK K11_8)
noncomputable def K11_10 : List Item := adv 1 [] (popK K11_9)
noncomputable def K11_11 : List Item := adv 3 [] K11_10
noncomputable def K11_12 : List Item := adv 1 [] K11_11
noncomputable def K11_13 : List Item := adv 9 [] (popK (popK K11_12))
noncomputable def K11_14 : List Item := adv 13 [true] K11_13
noncomputable def K11_15 : List Item := adv 1 [] (popK K11_14)
noncomputable def K11_16 : List Item := adv 3 [] K11_15
noncomputable def K11_17 : List Item := adv 1 [] K11_16
noncomputable def K11_18 : List Item := adv 9 [] (popK (popK K11_17))
noncomputable def K11_19 : List Item := adv 13 [true] K11_18
noncomputable def K11_20 : List Item := adv 1 [] (popK K11_19)
noncomputable def K11_21 : List Item := adv 3 [] K11_20
noncomputable def K11_22 : List Item := adv 1 [] K11_21
noncomputable def K11_23 : List Item := adv 9 [] (popK (popK K11_22))
noncomputable def K11_24 : List Item := adv 13 [true] K11_23
noncomputable def K11_25 : List Item := adv 1 [] (popK K11_24)
noncomputable def K11_26 : List Item := adv 3 [] K11_25
noncomputable def K11_27 : List Item := adv 1 [] K11_26
noncomputable def K11_28 : List Item := adv 9 [] (popK (popK K11_27))
noncomputable def K11_29 : List Item := adv 13 [true] K11_28
noncomputable def K11_30 : List Item := adv 1 [] (popK K11_29)
noncomputable def K11_31 : List Item := adv 3 [] K11_30
noncomputable def K11_32 : List Item := adv 1 [] K11_31
noncomputable def K11_33 : List Item := adv 9 [] (popK (popK K11_32))
noncomputable def K11_34 : List Item := adv 13 [true] K11_33
noncomputable def K11_35 : List Item := adv 1 [] (popK K11_34)
noncomputable def K11_36 : List Item := adv 3 [] K11_35
noncomputable def K11_37 : List Item := adv 1 [] K11_36
noncomputable def K11_38 : List Item := adv 9 [] (popK (popK K11_37))
noncomputable def K11_39 : List Item := adv 13 [true] K11_38
noncomputable def K11_40 : List Item := adv 1 [] (popK K11_39)
noncomputable def K11_41 : List Item := adv 3 [] K11_40
noncomputable def K11_42 : List Item := adv 1 [] K11_41
noncomputable def K11_43 : List Item := adv 9 [] (popK (popK K11_42))
noncomputable def K11_44 : List Item := adv 13 [true] K11_43
noncomputable def K11_45 : List Item := adv 1 [] (popK K11_44)
noncomputable def K11_46 : List Item := adv 3 [] K11_45
noncomputable def K11_47 : List Item := adv 1 [] K11_46
noncomputable def K11_48 : List Item := adv 9 [] (popK (popK K11_47))
noncomputable def K11_49 : List Item := adv 13 [false] K11_48
set_option maxRecDepth 20000 in
set_option maxHeartbeats 20000000 in
theorem rencode_any (i : Ins) (w : World) (hi : insQ w i) : Ret Tryd.prog 11 #[.agg #[.int .i64 i.gOp, .int .i64 i.gA, .int .i64 i.gB, .int .i64 i.gC, .int .i64 i.gK]] w (fun v w' => ∃ a cap, v = .slice a (encL i).length cap ∧ Sep w [rowOf (enc1 (Value.int .u8)) a cap 5 1 (encL i)] w') := by
 have S0 := Sep.refl w
 refine Ret.named fun R hR => ?_
 refine Ret.of_J (N := 33) [(0, .agg #[.int .i64 i.gOp, .int .i64 i.gA, .int .i64 i.gB, .int .i64 i.gC, .int .i64 i.gK])] Tryd.func11 rfl rfl (Nat.le_of_ble_eq_true (by kernel_rfl)) (by kernel_rfl) ?_
 obtain ⟨q1, q2, q3, q4, q5, _⟩ := id hi
 have hu : 0 ≤ u64F i.gK ∧ u64F i.gK < 18446744073709551616 := by unfold u64F; omega
 refine J.run 2 K11_0 [(0, .agg #[.int .i64 i.gOp, .int .i64 i.gA, .int .i64 i.gB, .int .i64 i.gC, .int .i64 i.gK])] w (by kernel_rfl) ?_
 refine J.new S0 1 [.int .i64 i.gOp, .int .i64 i.gA, .int .i64 i.gB, .int .i64 i.gC, .int .i64 i.gK] 23 (by kernel_rfl) ?_
 intro b1 w1 S1
 refine J.run 5 K11_1 [(5, .pointer (some ⟨b1, 0, none⟩)), (1, .pointer (some ⟨b1, 0, none⟩))] w1 (by kernel_rfl) ?_
 refine J.ok (OK.ldBox S1 0 6 3 0 (.int .i64 i.gOp) (by kernel_rfl) rfl (by kernel_rfl)) ?_
 refine J.run 1 K11_2 [(7, .int .u8 (IntKind.wrap .u8 i.gOp)), (1, .pointer (some ⟨b1, 0, none⟩))] w1 (by kernel_rfl) ?_
 refine J.head (.int .u8 (i.gOp % 256)) (congrArg (Value.int .u8) (wrapB _)) ?_
 refine J.run 1 K11_3 [(8, .pointer (some ⟨b1, 1, none⟩)), (7, .int .u8 (i.gOp % 256)), (1, .pointer (some ⟨b1, 0, none⟩))] w1 (by kernel_rfl) ?_
 refine J.ok (OK.ldBox S1 0 9 3 1 (.int .i64 i.gA) (by kernel_rfl) rfl (by kernel_rfl)) ?_
 refine J.run 1 K11_4 [(10, .int .u8 (IntKind.wrap .u8 i.gA)), (7, .int .u8 (i.gOp % 256)), (1, .pointer (some ⟨b1, 0, none⟩))] w1 (by kernel_rfl) ?_
 refine J.head (.int .u8 (i.gA % 256)) (congrArg (Value.int .u8) (wrapB _)) ?_
 refine J.run 1 K11_5 [(11, .pointer (some ⟨b1, 2, none⟩)), (10, .int .u8 (i.gA % 256)), (7, .int .u8 (i.gOp % 256)), (1, .pointer (some ⟨b1, 0, none⟩))] w1 (by kernel_rfl) ?_
 refine J.ok (OK.ldBox S1 0 12 3 2 (.int .i64 i.gB) (by kernel_rfl) rfl (by kernel_rfl)) ?_
 refine J.run 1 K11_6 [(13, .int .u8 (IntKind.wrap .u8 i.gB)), (10, .int .u8 (i.gA % 256)), (7, .int .u8 (i.gOp % 256)), (1, .pointer (some ⟨b1, 0, none⟩))] w1 (by kernel_rfl) ?_
 refine J.head (.int .u8 (i.gB % 256)) (congrArg (Value.int .u8) (wrapB _)) ?_
 refine J.run 1 K11_7 [(14, .pointer (some ⟨b1, 3, none⟩)), (13, .int .u8 (i.gB % 256)), (10, .int .u8 (i.gA % 256)), (7, .int .u8 (i.gOp % 256)), (1, .pointer (some ⟨b1, 0, none⟩))] w1 (by kernel_rfl) ?_
 refine J.ok (OK.ldBox S1 0 15 3 3 (.int .i64 i.gC) (by kernel_rfl) rfl (by kernel_rfl)) ?_
 refine J.run 1 K11_8 [(16, .int .u8 (IntKind.wrap .u8 i.gC)), (13, .int .u8 (i.gB % 256)), (10, .int .u8 (i.gA % 256)), (7, .int .u8 (i.gOp % 256)), (1, .pointer (some ⟨b1, 0, none⟩))] w1 (by kernel_rfl) ?_
 refine J.head (.int .u8 (i.gC % 256)) (congrArg (Value.int .u8) (wrapB _)) ?_
 refine J.newSlice S1 17 4 [.int .u8 (i.gOp % 256), .int .u8 (i.gA % 256), .int .u8 (i.gB % 256), .int .u8 (i.gC % 256)] 5 (by kernel_rfl) ?_
 intro b2 w2 S2
 refine J.run 22 K11_9 [(23, .pointer (some ⟨b1, 4, none⟩)), (22, .slice (some ⟨b2, 0, none⟩) 4 4), (4, .int .i64 56), (1, .pointer (some ⟨b1, 0, none⟩))] w2 (by kernel_rfl) ?_
 refine J.ok (OK.ldBox S2 1 24 3 4 (.int .i64 i.gK) (by kernel_rfl) rfl (by kernel_rfl)) ?_
 refine J.run 1 K11_10 [(25, .int .u64 (IntKind.wrap .u64 i.gK)), (22, .slice (some ⟨b2, 0, none⟩) 4 4), (4, .int .i64 56), (1, .pointer (some ⟨b1, 0, none⟩))] w2 (by kernel_rfl) ?_
 refine J.head (.int .u64 (u64F i.gK)) (congrArg (Value.int .u64) (wrapU _)) ?_
 refine J.run 3 K11_11 [(28, .int .u64 (Int.fdiv (u64F i.gK) (2 ^ 56))), (22, .slice (some ⟨b2, 0, none⟩) 4 4), (4, .int .i64 56), (1, .pointer (some ⟨b1, 0, none⟩))] w2 (by kernel_rfl) ?_
 refine J.head (.int .u64 ((u64F i.gK) / 72057594037927936)) (congrArg (Value.int .u64) (shr_lit _ _ (by decide))) ?_
 refine J.run 1 K11_12 [(29, .int .u8 (IntKind.wrap .u8 ((u64F i.gK) / 72057594037927936))), (22, .slice (some ⟨b2, 0, none⟩) 4 4), (4, .int .i64 56), (1, .pointer (some ⟨b1, 0, none⟩))] w2 (by kernel_rfl) ?_
 refine J.head (.int .u8 (((u64F i.gK) / 72057594037927936) % 256)) (congrArg (Value.int .u8) (wrapB _)) ?_
 refine J.newSlice S2 30 1 [.int .u8 (((u64F i.gK) / 72057594037927936) % 256)] 5 (by kernel_rfl) ?_
 intro b3 w3 S3
 have S4 : Sep w [box b3 [.int .u8 (((u64F i.gK) / 72057594037927936) % 256)] 5, rowOf (enc1 (Value.int .u8)) (some ⟨b2, 0, none⟩) 4 5 1 ([i.gOp % 256, i.gA % 256, i.gB % 256, i.gC % 256]), box b1 [.int .i64 i.gOp, .int .i64 i.gA, .int .i64 i.gB, .int .i64 i.gC, .int .i64 i.gK] 23] w3 := box_row (enc1 (Value.int .u8)) S3 1 [i.gOp % 256, i.gA % 256, i.gB % 256, i.gC % 256] 1 rfl rfl rfl (by simp [maxLen]) (.inr trivial)
 refine J.append (enc1 (Value.int .u8)) S4 1 ([i.gOp % 256, i.gA % 256, i.gB % 256, i.gC % 256]) (((u64F i.gK) / 72057594037927936) % 256) 31 24 (.int .u8 0) 1 ⟨b3, 0, none⟩ 1 rfl (by kernel_rfl) (by kernel_rfl) (by kernel_rfl) (by kernel_rfl) (by decide) (box_cells (S4.nth 0 rfl)) (by kernel_rfl) (by kernel_rfl) (⟨by (try simp only [List.length_append, List.length_cons, List.length_nil]); omega, by (try simp only [List.length_append, List.length_cons, List.length_nil]); omega⟩) ?_
 intro ra1 rc1 w4 S5
 replace S5 : Sep w [box b3 [.int .u8 (((u64F i.gK) / 72057594037927936) % 256)] 5, rowOf (enc1 (Value.int .u8)) ra1 rc1 5 1 (([i.gOp % 256, i.gA % 256, i.gB % 256, i.gC % 256]) ++ [((u64F i.gK) / 72057594037927936) % 256]), box b1 [.int .i64 i.gOp, .int .i64 i.gA, .int .i64 i.gB, .int .i64 i.gC, .int .i64 i.gK] 23] w4 := S5
 have S6 : Sep w [rowOf (enc1 (Value.int .u8)) ra1 rc1 5 1 (([i.gOp % 256, i.gA % 256, i.gB % 256, i.gC % 256]) ++ [((u64F i.gK) / 72057594037927936) % 256]), box b1 [.int .i64 i.gOp, .int .i64 i.gA, .int .i64 i.gB, .int .i64 i.gC, .int .i64 i.gK] 23] w4 := S5.erase 0
 clear S5
 refine J.run 9 K11_13 [(4, .int .i64 48), (3, .slice ra1 ((([i.gOp % 256, i.gA % 256, i.gB % 256, i.gC % 256]) ++ [((u64F i.gK) / 72057594037927936) % 256]).length) rc1), (1, .pointer (some ⟨b1, 0, none⟩))] w4 (by kernel_rfl) ?_
 refine J.run 13 K11_14 [(23, .pointer (some ⟨b1, 4, none⟩)), (22, .slice ra1 ((([i.gOp % 256, i.gA % 256, i.gB % 256, i.gC % 256]) ++ [((u64F i.gK) / 72057594037927936) % 256]).length) rc1), (4, .int .i64 48), (1, .pointer (some ⟨b1, 0, none⟩))] w4 (by kernel_rfl) ?_
 refine J.ok (OK.ldBox S6 1 24 3 4 (.int .i64 i.gK) (by kernel_rfl) rfl (by kernel_rfl)) ?_
 refine J.run 1 K11_15 [(25, .int .u64 (IntKind.wrap .u64 i.gK)), (22, .slice ra1 ((([i.gOp % 256, i.gA % 256, i.gB % 256, i.gC % 256]) ++ [((u64F i.gK) / 72057594037927936) % 256]).length) rc1), (4, .int .i64 48), (1, .pointer (some ⟨b1, 0, none⟩))] w4 (by kernel_rfl) ?_
 refine J.head (.int .u64 (u64F i.gK)) (congrArg (Value.int .u64) (wrapU _)) ?_
 refine J.run 3 K11_16 [(28, .int .u64 (Int.fdiv (u64F i.gK) (2 ^ 48))), (22, .slice ra1 ((([i.gOp % 256, i.gA % 256, i.gB % 256, i.gC % 256]) ++ [((u64F i.gK) / 72057594037927936) % 256]).length) rc1), (4, .int .i64 48), (1, .pointer (some ⟨b1, 0, none⟩))] w4 (by kernel_rfl) ?_
 refine J.head (.int .u64 ((u64F i.gK) / 281474976710656)) (congrArg (Value.int .u64) (shr_lit _ _ (by decide))) ?_
 refine J.run 1 K11_17 [(29, .int .u8 (IntKind.wrap .u8 ((u64F i.gK) / 281474976710656))), (22, .slice ra1 ((([i.gOp % 256, i.gA % 256, i.gB % 256, i.gC % 256]) ++ [((u64F i.gK) / 72057594037927936) % 256]).length) rc1), (4, .int .i64 48), (1, .pointer (some ⟨b1, 0, none⟩))] w4 (by kernel_rfl) ?_
 refine J.head (.int .u8 (((u64F i.gK) / 281474976710656) % 256)) (congrArg (Value.int .u8) (wrapB _)) ?_
 refine J.newSlice S6 30 1 [.int .u8 (((u64F i.gK) / 281474976710656) % 256)] 5 (by kernel_rfl) ?_
 intro b4 w5 S7
 refine J.append (enc1 (Value.int .u8)) S7 1 (([i.gOp % 256, i.gA % 256, i.gB % 256, i.gC % 256]) ++ [((u64F i.gK) / 72057594037927936) % 256]) (((u64F i.gK) / 281474976710656) % 256) 31 24 (.int .u8 0) 1 ⟨b4, 0, none⟩ 1 rfl (by kernel_rfl) (by kernel_rfl) (by kernel_rfl) (by kernel_rfl) (by decide) (box_cells (S7.nth 0 rfl)) (by kernel_rfl) (by kernel_rfl) (⟨by (try simp only [List.length_append, List.length_cons, List.length_nil]); omega, by (try simp only [List.length_append, List.length_cons, List.length_nil]); omega⟩) ?_
 intro ra2 rc2 w6 S8
 replace S8 : Sep w [box b4 [.int .u8 (((u64F i.gK) / 281474976710656) % 256)] 5, rowOf (enc1 (Value.int .u8)) ra2 rc2 5 1 ((([i.gOp % 256, i.gA % 256, i.gB % 256, i.gC % 256]) ++ [((u64F i.gK) / 72057594037927936) % 256]) ++ [((u64F i.gK) / 281474976710656) % 256]), box b1 [.int .i64 i.gOp, .int .i64 i.gA, .int .i64 i.gB, .int .i64 i.gC, .int .i64 i.gK] 23] w6 := S8
 have S9 : Sep w [rowOf (enc1 (Value.int .u8)) ra2 rc2 5 1 ((([i.gOp % 256, i.gA % 256, i.gB % 256, i.gC % 256]) ++ [((u64F i.gK) / 72057594037927936) % 256]) ++ [((u64F i.gK) / 281474976710656) % 256]), box b1 [.int .i64 i.gOp, .int .i64 i.gA, .int .i64 i.gB, .int .i64 i.gC, .int .i64 i.gK] 23] w6 := S8.erase 0
 clear S8
 refine J.run 9 K11_18 [(4, .int .i64 40), (3, .slice ra2 (((([i.gOp % 256, i.gA % 256, i.gB % 256, i.gC % 256]) ++ [((u64F i.gK) / 72057594037927936) % 256]) ++ [((u64F i.gK) / 281474976710656) % 256]).length) rc2), (1, .pointer (some ⟨b1, 0, none⟩))] w6 (by kernel_rfl) ?_
 refine J.run 13 K11_19 [(23, .pointer (some ⟨b1, 4, none⟩)), (22, .slice ra2 (((([i.gOp % 256, i.gA % 256, i.gB % 256, i.gC % 256]) ++ [((u64F i.gK) / 72057594037927936) % 256]) ++ [((u64F i.gK) / 281474976710656) % 256]).length) rc2), (4, .int .i64 40), (1, .pointer (some ⟨b1, 0, none⟩))] w6 (by kernel_rfl) ?_
 refine J.ok (OK.ldBox S9 1 24 3 4 (.int .i64 i.gK) (by kernel_rfl) rfl (by kernel_rfl)) ?_
 refine J.run 1 K11_20 [(25, .int .u64 (IntKind.wrap .u64 i.gK)), (22, .slice ra2 (((([i.gOp % 256, i.gA % 256, i.gB % 256, i.gC % 256]) ++ [((u64F i.gK) / 72057594037927936) % 256]) ++ [((u64F i.gK) / 281474976710656) % 256]).length) rc2), (4, .int .i64 40), (1, .pointer (some ⟨b1, 0, none⟩))] w6 (by kernel_rfl) ?_
 refine J.head (.int .u64 (u64F i.gK)) (congrArg (Value.int .u64) (wrapU _)) ?_
 refine J.run 3 K11_21 [(28, .int .u64 (Int.fdiv (u64F i.gK) (2 ^ 40))), (22, .slice ra2 (((([i.gOp % 256, i.gA % 256, i.gB % 256, i.gC % 256]) ++ [((u64F i.gK) / 72057594037927936) % 256]) ++ [((u64F i.gK) / 281474976710656) % 256]).length) rc2), (4, .int .i64 40), (1, .pointer (some ⟨b1, 0, none⟩))] w6 (by kernel_rfl) ?_
 refine J.head (.int .u64 ((u64F i.gK) / 1099511627776)) (congrArg (Value.int .u64) (shr_lit _ _ (by decide))) ?_
 refine J.run 1 K11_22 [(29, .int .u8 (IntKind.wrap .u8 ((u64F i.gK) / 1099511627776))), (22, .slice ra2 (((([i.gOp % 256, i.gA % 256, i.gB % 256, i.gC % 256]) ++ [((u64F i.gK) / 72057594037927936) % 256]) ++ [((u64F i.gK) / 281474976710656) % 256]).length) rc2), (4, .int .i64 40), (1, .pointer (some ⟨b1, 0, none⟩))] w6 (by kernel_rfl) ?_
 refine J.head (.int .u8 (((u64F i.gK) / 1099511627776) % 256)) (congrArg (Value.int .u8) (wrapB _)) ?_
 refine J.newSlice S9 30 1 [.int .u8 (((u64F i.gK) / 1099511627776) % 256)] 5 (by kernel_rfl) ?_
 intro b5 w7 S10
 refine J.append (enc1 (Value.int .u8)) S10 1 ((([i.gOp % 256, i.gA % 256, i.gB % 256, i.gC % 256]) ++ [((u64F i.gK) / 72057594037927936) % 256]) ++ [((u64F i.gK) / 281474976710656) % 256]) (((u64F i.gK) / 1099511627776) % 256) 31 24 (.int .u8 0) 1 ⟨b5, 0, none⟩ 1 rfl (by kernel_rfl) (by kernel_rfl) (by kernel_rfl) (by kernel_rfl) (by decide) (box_cells (S10.nth 0 rfl)) (by kernel_rfl) (by kernel_rfl) (⟨by (try simp only [List.length_append, List.length_cons, List.length_nil]); omega, by (try simp only [List.length_append, List.length_cons, List.length_nil]); omega⟩) ?_
 intro ra3 rc3 w8 S11
 replace S11 : Sep w [box b5 [.int .u8 (((u64F i.gK) / 1099511627776) % 256)] 5, rowOf (enc1 (Value.int .u8)) ra3 rc3 5 1 (((([i.gOp % 256, i.gA % 256, i.gB % 256, i.gC % 256]) ++ [((u64F i.gK) / 72057594037927936) % 256]) ++ [((u64F i.gK) / 281474976710656) % 256]) ++ [((u64F i.gK) / 1099511627776) % 256]), box b1 [.int .i64 i.gOp, .int .i64 i.gA, .int .i64 i.gB, .int .i64 i.gC, .int .i64 i.gK] 23] w8 := S11
 have S12 : Sep w [rowOf (enc1 (Value.int .u8)) ra3 rc3 5 1 (((([i.gOp % 256, i.gA % 256, i.gB % 256, i.gC % 256]) ++ [((u64F i.gK) / 72057594037927936) % 256]) ++ [((u64F i.gK) / 281474976710656) % 256]) ++ [((u64F i.gK) / 1099511627776) % 256]), box b1 [.int .i64 i.gOp, .int .i64 i.gA, .int .i64 i.gB, .int .i64 i.gC, .int .i64 i.gK] 23] w8 := S11.erase 0
 clear S11
 refine J.run 9 K11_23 [(4, .int .i64 32), (3, .slice ra3 ((((([i.gOp % 256, i.gA % 256, i.gB % 256, i.gC % 256]) ++ [((u64F i.gK) / 72057594037927936) % 256]) ++ [((u64F i.gK) / 281474976710656) % 256]) ++ [((u64F i.gK) / 1099511627776) % 256]).length) rc3), (1, .pointer (some ⟨b1, 0, none⟩))] w8 (by kernel_rfl) ?_
 refine J.run 13 K11_24 [(23, .pointer (some ⟨b1, 4, none⟩)), (22, .slice ra3 ((((([i.gOp % 256, i.gA % 256, i.gB % 256, i.gC % 256]) ++ [((u64F i.gK) / 72057594037927936) % 256]) ++ [((u64F i.gK) / 281474976710656) % 256]) ++ [((u64F i.gK) / 1099511627776) % 256]).length) rc3), (4, .int .i64 32), (1, .pointer (some ⟨b1, 0, none⟩))] w8 (by kernel_rfl) ?_
 refine J.ok (OK.ldBox S12 1 24 3 4 (.int .i64 i.gK) (by kernel_rfl) rfl (by kernel_rfl)) ?_
 refine J.run 1 K11_25 [(25, .int .u64 (IntKind.wrap .u64 i.gK)), (22, .slice ra3 ((((([i.gOp % 256, i.gA % 256, i.gB % 256, i.gC % 256]) ++ [((u64F i.gK) / 72057594037927936) % 256]) ++ [((u64F i.gK) / 281474976710656) % 256]) ++ [((u64F i.gK) / 1099511627776) % 256]).length) rc3), (4, .int .i64 32), (1, .pointer (some ⟨b1, 0, none⟩))] w8 (by kernel_rfl) ?_
 refine J.head (.int .u64 (u64F i.gK)) (congrArg (Value.int .u64) (wrapU _)) ?_
 refine J.run 3 K11_26 [(28, .int .u64 (Int.fdiv (u64F i.gK) (2 ^ 32))), (22, .slice ra3 ((((([i.gOp % 256, i.gA % 256, i.gB % 256, i.gC % 256]) ++ [((u64F i.gK) / 72057594037927936) % 256]) ++ [((u64F i.gK) / 281474976710656) % 256]) ++ [((u64F i.gK) / 1099511627776) % 256]).length) rc3), (4, .int .i64 32), (1, .pointer (some ⟨b1, 0, none⟩))] w8 (by kernel_rfl) ?_
 refine J.head (.int .u64 ((u64F i.gK) / 4294967296)) (congrArg (Value.int .u64) (shr_lit _ _ (by decide))) ?_
 refine J.run 1 K11_27 [(29, .int .u8 (IntKind.wrap .u8 ((u64F i.gK) / 4294967296))), (22, .slice ra3 ((((([i.gOp % 256, i.gA % 256, i.gB % 256, i.gC % 256]) ++ [((u64F i.gK) / 72057594037927936) % 256]) ++ [((u64F i.gK) / 281474976710656) % 256]) ++ [((u64F i.gK) / 1099511627776) % 256]).length) rc3), (4, .int .i64 32), (1, .pointer (some ⟨b1, 0, none⟩))] w8 (by kernel_rfl) ?_
 refine J.head (.int .u8 (((u64F i.gK) / 4294967296) % 256)) (congrArg (Value.int .u8) (wrapB _)) ?_
 refine J.newSlice S12 30 1 [.int .u8 (((u64F i.gK) / 4294967296) % 256)] 5 (by kernel_rfl) ?_
 intro b6 w9 S13
 refine J.append (enc1 (Value.int .u8)) S13 1 (((([i.gOp % 256, i.gA % 256, i.gB % 256, i.gC % 256]) ++ [((u64F i.gK) / 72057594037927936) % 256]) ++ [((u64F i.gK) / 281474976710656) % 256]) ++ [((u64F i.gK) / 1099511627776) % 256]) (((u64F i.gK) / 4294967296) % 256) 31 24 (.int .u8 0) 1 ⟨b6, 0, none⟩ 1 rfl (by kernel_rfl) (by kernel_rfl) (by kernel_rfl) (by kernel_rfl) (by decide) (box_cells (S13.nth 0 rfl)) (by kernel_rfl) (by kernel_rfl) (⟨by (try simp only [List.length_append, List.length_cons, List.length_nil]); omega, by (try simp only [List.length_append, List.length_cons, List.length_nil]); omega⟩) ?_
 intro ra4 rc4 w10 S14
 replace S14 : Sep w [box b6 [.int .u8 (((u64F i.gK) / 4294967296) % 256)] 5, rowOf (enc1 (Value.int .u8)) ra4 rc4 5 1 ((((([i.gOp % 256, i.gA % 256, i.gB % 256, i.gC % 256]) ++ [((u64F i.gK) / 72057594037927936) % 256]) ++ [((u64F i.gK) / 281474976710656) % 256]) ++ [((u64F i.gK) / 1099511627776) % 256]) ++ [((u64F i.gK) / 4294967296) % 256]), box b1 [.int .i64 i.gOp, .int .i64 i.gA, .int .i64 i.gB, .int .i64 i.gC, .int .i64 i.gK] 23] w10 := S14
 have S15 : Sep w [rowOf (enc1 (Value.int .u8)) ra4 rc4 5 1 ((((([i.gOp % 256, i.gA % 256, i.gB % 256, i.gC % 256]) ++ [((u64F i.gK) / 72057594037927936) % 256]) ++ [((u64F i.gK) / 281474976710656) % 256]) ++ [((u64F i.gK) / 1099511627776) % 256]) ++ [((u64F i.gK) / 4294967296) % 256]), box b1 [.int .i64 i.gOp, .int .i64 i.gA, .int .i64 i.gB, .int .i64 i.gC, .int .i64 i.gK] 23] w10 := S14.erase 0
 clear S14
 refine J.run 9 K11_28 [(4, .int .i64 24), (3, .slice ra4 (((((([i.gOp % 256, i.gA % 256, i.gB % 256, i.gC % 256]) ++ [((u64F i.gK) / 72057594037927936) % 256]) ++ [((u64F i.gK) / 281474976710656) % 256]) ++ [((u64F i.gK) / 1099511627776) % 256]) ++ [((u64F i.gK) / 4294967296) % 256]).length) rc4), (1, .pointer (some ⟨b1, 0, none⟩))] w10 (by kernel_rfl) ?_
 refine J.run 13 K11_29 [(23, .pointer (some ⟨b1, 4, none⟩)), (22, .slice ra4 (((((([i.gOp % 256, i.gA % 256, i.gB % 256, i.gC % 256]) ++ [((u64F i.gK) / 72057594037927936) % 256]) ++ [((u64F i.gK) / 281474976710656) % 256]) ++ [((u64F i.gK) / 1099511627776) % 256]) ++ [((u64F i.gK) / 4294967296) % 256]).length) rc4), (4, .int .i64 24), (1, .pointer (some ⟨b1, 0, none⟩))] w10 (by kernel_rfl) ?_
 refine J.ok (OK.ldBox S15 1 24 3 4 (.int .i64 i.gK) (by kernel_rfl) rfl (by kernel_rfl)) ?_
 refine J.run 1 K11_30 [(25, .int .u64 (IntKind.wrap .u64 i.gK)), (22, .slice ra4 (((((([i.gOp % 256, i.gA % 256, i.gB % 256, i.gC % 256]) ++ [((u64F i.gK) / 72057594037927936) % 256]) ++ [((u64F i.gK) / 281474976710656) % 256]) ++ [((u64F i.gK) / 1099511627776) % 256]) ++ [((u64F i.gK) / 4294967296) % 256]).length) rc4), (4, .int .i64 24), (1, .pointer (some ⟨b1, 0, none⟩))] w10 (by kernel_rfl) ?_
 refine J.head (.int .u64 (u64F i.gK)) (congrArg (Value.int .u64) (wrapU _)) ?_
 refine J.run 3 K11_31 [(28, .int .u64 (Int.fdiv (u64F i.gK) (2 ^ 24))), (22, .slice ra4 (((((([i.gOp % 256, i.gA % 256, i.gB % 256, i.gC % 256]) ++ [((u64F i.gK) / 72057594037927936) % 256]) ++ [((u64F i.gK) / 281474976710656) % 256]) ++ [((u64F i.gK) / 1099511627776) % 256]) ++ [((u64F i.gK) / 4294967296) % 256]).length) rc4), (4, .int .i64 24), (1, .pointer (some ⟨b1, 0, none⟩))] w10 (by kernel_rfl) ?_
 refine J.head (.int .u64 ((u64F i.gK) / 16777216)) (congrArg (Value.int .u64) (shr_lit _ _ (by decide))) ?_
 refine J.run 1 K11_32 [(29, .int .u8 (IntKind.wrap .u8 ((u64F i.gK) / 16777216))), (22, .slice ra4 (((((([i.gOp % 256, i.gA % 256, i.gB % 256, i.gC % 256]) ++ [((u64F i.gK) / 72057594037927936) % 256]) ++ [((u64F i.gK) / 281474976710656) % 256]) ++ [((u64F i.gK) / 1099511627776) % 256]) ++ [((u64F i.gK) / 4294967296) % 256]).length) rc4), (4, .int .i64 24), (1, .pointer (some ⟨b1, 0, none⟩))] w10 (by kernel_rfl) ?_
 refine J.head (.int .u8 (((u64F i.gK) / 16777216) % 256)) (congrArg (Value.int .u8) (wrapB _)) ?_
 refine J.newSlice S15 30 1 [.int .u8 (((u64F i.gK) / 16777216) % 256)] 5 (by kernel_rfl) ?_
 intro b7 w11 S16
 refine J.append (enc1 (Value.int .u8)) S16 1 ((((([i.gOp % 256, i.gA % 256, i.gB % 256, i.gC % 256]) ++ [((u64F i.gK) / 72057594037927936) % 256]) ++ [((u64F i.gK) / 281474976710656) % 256]) ++ [((u64F i.gK) / 1099511627776) % 256]) ++ [((u64F i.gK) / 4294967296) % 256]) (((u64F i.gK) / 16777216) % 256) 31 24 (.int .u8 0) 1 ⟨b7, 0, none⟩ 1 rfl (by kernel_rfl) (by kernel_rfl) (by kernel_rfl) (by kernel_rfl) (by decide) (box_cells (S16.nth 0 rfl)) (by kernel_rfl) (by kernel_rfl) (⟨by (try simp only [List.length_append, List.length_cons, List.length_nil]); omega, by (try simp only [List.length_append, List.length_cons, List.length_nil]); omega⟩) ?_
 intro ra5 rc5 w12 S17
 replace S17 : Sep w [box b7 [.int .u8 (((u64F i.gK) / 16777216) % 256)] 5, rowOf (enc1 (Value.int .u8)) ra5 rc5 5 1 (((((([i.gOp % 256, i.gA % 256, i.gB % 256, i.gC % 256]) ++ [((u64F i.gK) / 72057594037927936) % 256]) ++ [((u64F i.gK) / 281474976710656) % 256]) ++ [((u64F i.gK) / 1099511627776) % 256]) ++ [((u64F i.gK) / 4294967296) % 256]) ++ [((u64F i.gK) / 16777216) % 256]), box b1 [.int .i64 i.gOp, .int .i64 i.gA, .int .i64 i.gB, .int .i64 i.gC, .int .i64 i.gK] 23] w12 := S17
 have S18 : Sep w [rowOf (enc1 (Value.int .u8)) ra5 rc5 5 1 (((((([i.gOp % 256, i.gA % 256, i.gB % 256, i.gC % 256]) ++ [((u64F i.gK) / 72057594037927936) % 256]) ++ [((u64F i.gK) / 281474976710656) % 256]) ++ [((u64F i.gK) / 1099511627776) % 256]) ++ [((u64F i.gK) / 4294967296) % 256]) ++ [((u64F i.gK) / 16777216) % 256]), box b1 [.int .i64 i.gOp, .int .i64 i.gA, .int .i64 i.gB, .int .i64 i.gC, .int .i64 i.gK] 23] w12 := S17.erase 0
 clear S17
 refine J.run 9 K11_33 [(4, .int .i64 16), (3, .slice ra5 ((((((([i.gOp % 256, i.gA % 256, i.gB % 256, i.gC % 256]) ++ [((u64F i.gK) / 72057594037927936) % 256]) ++ [((u64F i.gK) / 281474976710656) % 256]) ++ [((u64F i.gK) / 1099511627776) % 256]) ++ [((u64F i.gK) / 4294967296) % 256]) ++ [((u64F i.gK) / 16777216) % 256]).length) rc5), (1, .pointer (some ⟨b1, 0, none⟩))] w12 (by kernel_rfl) ?_
 refine J.run 13 K11_34 [(23, .pointer (some ⟨b1, 4, none⟩)), (22, .slice ra5 ((((((([i.gOp % 256, i.gA % 256, i.gB % 256, i.gC % 256]) ++ [((u64F i.gK) / 72057594037927936) % 256]) ++ [((u64F i.gK) / 281474976710656) % 256]) ++ [((u64F i.gK) / 1099511627776) % 256]) ++ [((u64F i.gK) / 4294967296) % 256]) ++ [((u64F i.gK) / 16777216) % 256]).length) rc5), (4, .int .i64 16), (1, .pointer (some ⟨b1, 0, none⟩))] w12 (by kernel_rfl) ?_
 refine J.ok (OK.ldBox S18 1 24 3 4 (.int .i64 i.gK) (by kernel_rfl) rfl (by kernel_rfl)) ?_
 refine J.run 1 K11_35 [(25, .int .u64 (IntKind.wrap .u64 i.gK)), (22, .slice ra5 ((((((([i.gOp % 256, i.gA % 256, i.gB % 256, i.gC % 256]) ++ [((u64F i.gK) / 72057594037927936) % 256]) ++ [((u64F i.gK) / 281474976710656) % 256]) ++ [((u64F i.gK) / 1099511627776) % 256]) ++ [((u64F i.gK) / 4294967296) % 256]) ++ [((u64F i.gK) / 16777216) % 256]).length) rc5), (4, .int .i64 16), (1, .pointer (some ⟨b1, 0, none⟩))] w12 (by kernel_rfl) ?_
 refine J.head (.int .u64 (u64F i.gK)) (congrArg (Value.int .u64) (wrapU _)) ?_
 refine J.run 3 K11_36 [(28, .int .u64 (Int.fdiv (u64F i.gK) (2 ^ 16))), (22, .slice ra5 ((((((([i.gOp % 256, i.gA % 256, i.gB % 256, i.gC % 256]) ++ [((u64F i.gK) / 72057594037927936) % 256]) ++ [((u64F i.gK) / 281474976710656) % 256]) ++ [((u64F i.gK) / 1099511627776) % 256]) ++ [((u64F i.gK) / 4294967296) % 256]) ++ [((u64F i.gK) / 16777216) % 256]).length) rc5), (4, .int .i64 16), (1, .pointer (some ⟨b1, 0, none⟩))] w12 (by kernel_rfl) ?_
 refine J.head (.int .u64 ((u64F i.gK) / 65536)) (congrArg (Value.int .u64) (shr_lit _ _ (by decide))) ?_
 refine J.run 1 K11_37 [(29, .int .u8 (IntKind.wrap .u8 ((u64F i.gK) / 65536))), (22, .slice ra5 ((((((([i.gOp % 256, i.gA % 256, i.gB % 256, i.gC % 256]) ++ [((u64F i.gK) / 72057594037927936) % 256]) ++ [((u64F i.gK) / 281474976710656) % 256]) ++ [((u64F i.gK) / 1099511627776) % 256]) ++ [((u64F i.gK) / 4294967296) % 256]) ++ [((u64F i.gK) / 16777216) % 256]).length) rc5), (4, .int .i64 16), (1, .pointer (some ⟨b1, 0, none⟩))] w12 (by kernel_rfl) ?_
 refine J.head (.int .u8 (((u64F i.gK) / 65536) % 256)) (congrArg (Value.int .u8) (wrapB _)) ?_
 refine J.newSlice S18 30 1 [.int .u8 (((u64F i.gK) / 65536) % 256)] 5 (by kernel_rfl) ?_
 intro b8 w13 S19
 refine J.append (enc1 (Value.int .u8)) S19 1 (((((([i.gOp % 256, i.gA % 256, i.gB % 256, i.gC % 256]) ++ [((u64F i.gK) / 72057594037927936) % 256]) ++ [((u64F i.gK) / 281474976710656) % 256]) ++ [((u64F i.gK) / 1099511627776) % 256]) ++ [((u64F i.gK) / 4294967296) % 256]) ++ [((u64F i.gK) / 16777216) % 256]) (((u64F i.gK) / 65536) % 256) 31 24 (.int .u8 0) 1 ⟨b8, 0, none⟩ 1 rfl (by kernel_rfl) (by kernel_rfl) (by kernel_rfl) (by kernel_rfl) (by decide) (box_cells (S19.nth 0 rfl)) (by kernel_rfl) (by kernel_rfl) (⟨by (try simp only [List.length_append, List.length_cons, List.length_nil]); omega, by (try simp only [List.length_append, List.length_cons, List.length_nil]); omega⟩) ?_
 intro ra6 rc6 w14 S20
 replace S20 : Sep w [box b8 [.int .u8 (((u64F i.gK) / 65536) % 256)] 5, rowOf (enc1 (Value.int .u8)) ra6 rc6 5 1 ((((((([i.gOp % 256, i.gA % 256, i.gB % 256, i.gC % 256]) ++ [((u64F i.gK) / 72057594037927936) % 256]) ++ [((u64F i.gK) / 281474976710656) % 256]) ++ [((u64F i.gK) / 1099511627776) % 256]) ++ [((u64F i.gK) / 4294967296) % 256]) ++ [((u64F i.gK) / 16777216) % 256]) ++ [((u64F i.gK) / 65536) % 256]), box b1 [.int .i64 i.gOp, .int .i64 i.gA, .int .i64 i.gB, .int .i64 i.gC, .int .i64 i.gK] 23] w14 := S20
 have S21 : Sep w [rowOf (enc1 (Value.int .u8)) ra6 rc6 5 1 ((((((([i.gOp % 256, i.gA % 256, i.gB % 256, i.gC % 256]) ++ [((u64F i.gK) / 72057594037927936) % 256]) ++ [((u64F i.gK) / 281474976710656) % 256]) ++ [((u64F i.gK) / 1099511627776) % 256]) ++ [((u64F i.gK) / 4294967296) % 256]) ++ [((u64F i.gK) / 16777216) % 256]) ++ [((u64F i.gK) / 65536) % 256]), box b1 [.int .i64 i.gOp, .int .i64 i.gA, .int .i64 i.gB, .int .i64 i.gC, .int .i64 i.gK] 23] w14 := S20.erase 0
 clear S20
 refine J.run 9 K11_38 [(4, .int .i64 8), (3, .slice ra6 (((((((([i.gOp % 256, i.gA % 256, i.gB % 256, i.gC % 256]) ++ [((u64F i.gK) / 72057594037927936) % 256]) ++ [((u64F i.gK) / 281474976710656) % 256]) ++ [((u64F i.gK) / 1099511627776) % 256]) ++ [((u64F i.gK) / 4294967296) % 256]) ++ [((u64F i.gK) / 16777216) % 256]) ++ [((u64F i.gK) / 65536) % 256]).length) rc6), (1, .pointer (some ⟨b1, 0, none⟩))] w14 (by kernel_rfl) ?_
 refine J.run 13 K11_39 [(23, .pointer (some ⟨b1, 4, none⟩)), (22, .slice ra6 (((((((([i.gOp % 256, i.gA % 256, i.gB % 256, i.gC % 256]) ++ [((u64F i.gK) / 72057594037927936) % 256]) ++ [((u64F i.gK) / 281474976710656) % 256]) ++ [((u64F i.gK) / 1099511627776) % 256]) ++ [((u64F i.gK) / 4294967296) % 256]) ++ [((u64F i.gK) / 16777216) % 256]) ++ [((u64F i.gK) / 65536) % 256]).length) rc6), (4, .int .i64 8), (1, .pointer (some ⟨b1, 0, none⟩))] w14 (by kernel_rfl) ?_
 refine J.ok (OK.ldBox S21 1 24 3 4 (.int .i64 i.gK) (by kernel_rfl) rfl (by kernel_rfl)) ?_
 refine J.run 1 K11_40 [(25, .int .u64 (IntKind.wrap .u64 i.gK)), (22, .slice ra6 (((((((([i.gOp % 256, i.gA % 256, i.gB % 256, i.gC % 256]) ++ [((u64F i.gK) / 72057594037927936) % 256]) ++ [((u64F i.gK) / 281474976710656) % 256]) ++ [((u64F i.gK) / 1099511627776) % 256]) ++ [((u64F i.gK) / 4294967296) % 256]) ++ [((u64F i.gK) / 16777216) % 256]) ++ [((u64F i.gK) / 65536) % 256]).length) rc6), (4, .int .i64 8), (1, .pointer (some ⟨b1, 0, none⟩))] w14 (by kernel_rfl) ?_
 refine J.head (.int .u64 (u64F i.gK)) (congrArg (Value.int .u64) (wrapU _)) ?_
 refine J.run 3 K11_41 [(28, .int .u64 (Int.fdiv (u64F i.gK) (2 ^ 8))), (22, .slice ra6 (((((((([i.gOp % 256, i.gA % 256, i.gB % 256, i.gC % 256]) ++ [((u64F i.gK) / 72057594037927936) % 256]) ++ [((u64F i.gK) / 281474976710656) % 256]) ++ [((u64F i.gK) / 1099511627776) % 256]) ++ [((u64F i.gK) / 4294967296) % 256]) ++ [((u64F i.gK) / 16777216) % 256]) ++ [((u64F i.gK) / 65536) % 256]).length) rc6), (4, .int .i64 8), (1, .pointer (some ⟨b1, 0, none⟩))] w14 (by kernel_rfl) ?_
 refine J.head (.int .u64 ((u64F i.gK) / 256)) (congrArg (Value.int .u64) (shr_lit _ _ (by decide))) ?_
 refine J.run 1 K11_42 [(29, .int .u8 (IntKind.wrap .u8 ((u64F i.gK) / 256))), (22, .slice ra6 (((((((([i.gOp % 256, i.gA % 256, i.gB % 256, i.gC % 256]) ++ [((u64F i.gK) / 72057594037927936) % 256]) ++ [((u64F i.gK) / 281474976710656) % 256]) ++ [((u64F i.gK) / 1099511627776) % 256]) ++ [((u64F i.gK) / 4294967296) % 256]) ++ [((u64F i.gK) / 16777216) % 256]) ++ [((u64F i.gK) / 65536) % 256]).length) rc6), (4, .int .i64 8), (1, .pointer (some ⟨b1, 0, none⟩))] w14 (by kernel_rfl) ?_
 refine J.head (.int .u8 (((u64F i.gK) / 256) % 256)) (congrArg (Value.int .u8) (wrapB _)) ?_
 refine J.newSlice S21 30 1 [.int .u8 (((u64F i.gK) / 256) % 256)] 5 (by kernel_rfl) ?_
 intro b9 w15 S22
 refine J.append (enc1 (Value.int .u8)) S22 1 ((((((([i.gOp % 256, i.gA % 256, i.gB % 256, i.gC % 256]) ++ [((u64F i.gK) / 72057594037927936) % 256]) ++ [((u64F i.gK) / 281474976710656) % 256]) ++ [((u64F i.gK) / 1099511627776) % 256]) ++ [((u64F i.gK) / 4294967296) % 256]) ++ [((u64F i.gK) / 16777216) % 256]) ++ [((u64F i.gK) / 65536) % 256]) (((u64F i.gK) / 256) % 256) 31 24 (.int .u8 0) 1 ⟨b9, 0, none⟩ 1 rfl (by kernel_rfl) (by kernel_rfl) (by kernel_rfl) (by kernel_rfl) (by decide) (box_cells (S22.nth 0 rfl)) (by kernel_rfl) (by kernel_rfl) (⟨by (try simp only [List.length_append, List.length_cons, List.length_nil]); omega, by (try simp only [List.length_append, List.length_cons, List.length_nil]); omega⟩) ?_
 intro ra7 rc7 w16 S23
 replace S23 : Sep w [box b9 [.int .u8 (((u64F i.gK) / 256) % 256)] 5, rowOf (enc1 (Value.int .u8)) ra7 rc7 5 1 (((((((([i.gOp % 256, i.gA % 256, i.gB % 256, i.gC % 256]) ++ [((u64F i.gK) / 72057594037927936) % 256]) ++ [((u64F i.gK) / 281474976710656) % 256]) ++ [((u64F i.gK) / 1099511627776) % 256]) ++ [((u64F i.gK) / 4294967296) % 256]) ++ [((u64F i.gK) / 16777216) % 256]) ++ [((u64F i.gK) / 65536) % 256]) ++ [((u64F i.gK) / 256) % 256]), box b1 [.int .i64 i.gOp, .int .i64 i.gA, .int .i64 i.gB, .int .i64 i.gC, .int .i64 i.gK] 23] w16 := S23
 have S24 : Sep w [rowOf (enc1 (Value.int .u8)) ra7 rc7 5 1 (((((((([i.gOp % 256, i.gA % 256, i.gB % 256, i.gC % 256]) ++ [((u64F i.gK) / 72057594037927936) % 256]) ++ [((u64F i.gK) / 281474976710656) % 256]) ++ [((u64F i.gK) / 1099511627776) % 256]) ++ [((u64F i.gK) / 4294967296) % 256]) ++ [((u64F i.gK) / 16777216) % 256]) ++ [((u64F i.gK) / 65536) % 256]) ++ [((u64F i.gK) / 256) % 256]), box b1 [.int .i64 i.gOp, .int .i64 i.gA, .int .i64 i.gB, .int .i64 i.gC, .int .i64 i.gK] 23] w16 := S23.erase 0
 clear S23
 refine J.run 9 K11_43 [(4, .int .i64 0), (3, .slice ra7 ((((((((([i.gOp % 256, i.gA % 256, i.gB % 256, i.gC % 256]) ++ [((u64F i.gK) / 72057594037927936) % 256]) ++ [((u64F i.gK) / 281474976710656) % 256]) ++ [((u64F i.gK) / 1099511627776) % 256]) ++ [((u64F i.gK) / 4294967296) % 256]) ++ [((u64F i.gK) / 16777216) % 256]) ++ [((u64F i.gK) / 65536) % 256]) ++ [((u64F i.gK) / 256) % 256]).length) rc7), (1, .pointer (some ⟨b1, 0, none⟩))] w16 (by kernel_rfl) ?_
 refine J.run 13 K11_44 [(23, .pointer (some ⟨b1, 4, none⟩)), (22, .slice ra7 ((((((((([i.gOp % 256, i.gA % 256, i.gB % 256, i.gC % 256]) ++ [((u64F i.gK) / 72057594037927936) % 256]) ++ [((u64F i.gK) / 281474976710656) % 256]) ++ [((u64F i.gK) / 1099511627776) % 256]) ++ [((u64F i.gK) / 4294967296) % 256]) ++ [((u64F i.gK) / 16777216) % 256]) ++ [((u64F i.gK) / 65536) % 256]) ++ [((u64F i.gK) / 256) % 256]).length) rc7), (4, .int .i64 0), (1, .pointer (some ⟨b1, 0, none⟩))] w16 (by kernel_rfl) ?_
 refine J.ok (OK.ldBox S24 1 24 3 4 (.int .i64 i.gK) (by kernel_rfl) rfl (by kernel_rfl)) ?_
 refine J.run 1 K11_45 [(25, .int .u64 (IntKind.wrap .u64 i.gK)), (22, .slice ra7 ((((((((([i.gOp % 256, i.gA % 256, i.gB % 256, i.gC % 256]) ++ [((u64F i.gK) / 72057594037927936) % 256]) ++ [((u64F i.gK) / 281474976710656) % 256]) ++ [((u64F i.gK) / 1099511627776) % 256]) ++ [((u64F i.gK) / 4294967296) % 256]) ++ [((u64F i.gK) / 16777216) % 256]) ++ [((u64F i.gK) / 65536) % 256]) ++ [((u64F i.gK) / 256) % 256]).length) rc7), (4, .int .i64 0), (1, .pointer (some ⟨b1, 0, none⟩))] w16 (by kernel_rfl) ?_
 refine J.head (.int .u64 (u64F i.gK)) (congrArg (Value.int .u64) (wrapU _)) ?_
 refine J.run 3 K11_46 [(28, .int .u64 (Int.fdiv (u64F i.gK) (2 ^ 0))), (22, .slice ra7 ((((((((([i.gOp % 256, i.gA % 256, i.gB % 256, i.gC % 256]) ++ [((u64F i.gK) / 72057594037927936) % 256]) ++ [((u64F i.gK) / 281474976710656) % 256]) ++ [((u64F i.gK) / 1099511627776) % 256]) ++ [((u64F i.gK) / 4294967296) % 256]) ++ [((u64F i.gK) / 16777216) % 256]) ++ [((u64F i.gK) / 65536) % 256]) ++ [((u64F i.gK) / 256) % 256]).length) rc7), (4, .int .i64 0), (1, .pointer (some ⟨b1, 0, none⟩))] w16 (by kernel_rfl) ?_
 refine J.head (.int .u64 ((u64F i.gK) / 1)) (congrArg (Value.int .u64) (shr_lit _ _ (by decide))) ?_
 refine J.run 1 K11_47 [(29, .int .u8 (IntKind.wrap .u8 ((u64F i.gK) / 1))), (22, .slice ra7 ((((((((([i.gOp % 256, i.gA % 256, i.gB % 256, i.gC % 256]) ++ [((u64F i.gK) / 72057594037927936) % 256]) ++ [((u64F i.gK) / 281474976710656) % 256]) ++ [((u64F i.gK) / 1099511627776) % 256]) ++ [((u64F i.gK) / 4294967296) % 256]) ++ [((u64F i.gK) / 16777216) % 256]) ++ [((u64F i.gK) / 65536) % 256]) ++ [((u64F i.gK) / 256) % 256]).length) rc7), (4, .int .i64 0), (1, .pointer (some ⟨b1, 0, none⟩))] w16 (by kernel_rfl) ?_
 refine J.head (.int .u8 (((u64F i.gK) / 1) % 256)) (congrArg (Value.int .u8) (wrapB _)) ?_
 refine J.newSlice S24 30 1 [.int .u8 (((u64F i.gK) / 1) % 256)] 5 (by kernel_rfl) ?_
 intro b10 w17 S25
 refine J.append (enc1 (Value.int .u8)) S25 1 (((((((([i.gOp % 256, i.gA % 256, i.gB % 256, i.gC % 256]) ++ [((u64F i.gK) / 72057594037927936) % 256]) ++ [((u64F i.gK) / 281474976710656) % 256]) ++ [((u64F i.gK) / 1099511627776) % 256]) ++ [((u64F i.gK) / 4294967296) % 256]) ++ [((u64F i.gK) / 16777216) % 256]) ++ [((u64F i.gK) / 65536) % 256]) ++ [((u64F i.gK) / 256) % 256]) (((u64F i.gK) / 1) % 256) 31 24 (.int .u8 0) 1 ⟨b10, 0, none⟩ 1 rfl (by kernel_rfl) (by kernel_rfl) (by kernel_rfl) (by kernel_rfl) (by decide) (box_cells (S25.nth 0 rfl)) (by kernel_rfl) (by kernel_rfl) (⟨by (try simp only [List.length_append, List.length_cons, List.length_nil]); omega, by (try simp only [List.length_append, List.length_cons, List.length_nil]); omega⟩) ?_
 intro ra8 rc8 w18 S26
 replace S26 : Sep w [box b10 [.int .u8 (((u64F i.gK) / 1) % 256)] 5, rowOf (enc1 (Value.int .u8)) ra8 rc8 5 1 ((((((((([i.gOp % 256, i.gA % 256, i.gB % 256, i.gC % 256]) ++ [((u64F i.gK) / 72057594037927936) % 256]) ++ [((u64F i.gK) / 281474976710656) % 256]) ++ [((u64F i.gK) / 1099511627776) % 256]) ++ [((u64F i.gK) / 4294967296) % 256]) ++ [((u64F i.gK) / 16777216) % 256]) ++ [((u64F i.gK) / 65536) % 256]) ++ [((u64F i.gK) / 256) % 256]) ++ [((u64F i.gK) / 1) % 256]), box b1 [.int .i64 i.gOp, .int .i64 i.gA, .int .i64 i.gB, .int .i64 i.gC, .int .i64 i.gK] 23] w18 := S26
 have S27 : Sep w [rowOf (enc1 (Value.int .u8)) ra8 rc8 5 1 ((((((((([i.gOp % 256, i.gA % 256, i.gB % 256, i.gC % 256]) ++ [((u64F i.gK) / 72057594037927936) % 256]) ++ [((u64F i.gK) / 281474976710656) % 256]) ++ [((u64F i.gK) / 1099511627776) % 256]) ++ [((u64F i.gK) / 4294967296) % 256]) ++ [((u64F i.gK) / 16777216) % 256]) ++ [((u64F i.gK) / 65536) % 256]) ++ [((u64F i.gK) / 256) % 256]) ++ [((u64F i.gK) / 1) % 256]), box b1 [.int .i64 i.gOp, .int .i64 i.gA, .int .i64 i.gB, .int .i64 i.gC, .int .i64 i.gK] 23] w18 := S26.erase 0
 clear S26
 refine J.run 9 K11_48 [(4, .int .i64 (-8)), (3, .slice ra8 (((((((((([i.gOp % 256, i.gA % 256, i.gB % 256, i.gC % 256]) ++ [((u64F i.gK) / 72057594037927936) % 256]) ++ [((u64F i.gK) / 281474976710656) % 256]) ++ [((u64F i.gK) / 1099511627776) % 256]) ++ [((u64F i.gK) / 4294967296) % 256]) ++ [((u64F i.gK) / 16777216) % 256]) ++ [((u64F i.gK) / 65536) % 256]) ++ [((u64F i.gK) / 256) % 256]) ++ [((u64F i.gK) / 1) % 256]).length) rc8), (1, .pointer (some ⟨b1, 0, none⟩))] w18 (by kernel_rfl) ?_
 refine J.run 13 K11_49 [(2, .slice ra8 (((((((((([i.gOp % 256, i.gA % 256, i.gB % 256, i.gC % 256]) ++ [((u64F i.gK) / 72057594037927936) % 256]) ++ [((u64F i.gK) / 281474976710656) % 256]) ++ [((u64F i.gK) / 1099511627776) % 256]) ++ [((u64F i.gK) / 4294967296) % 256]) ++ [((u64F i.gK) / 16777216) % 256]) ++ [((u64F i.gK) / 65536) % 256]) ++ [((u64F i.gK) / 256) % 256]) ++ [((u64F i.gK) / 1) % 256]).length) rc8)] w18 (by kernel_rfl) ?_
 refine J.ret Tryd.f11 [.slice ra8 (((((((((([i.gOp % 256, i.gA % 256, i.gB % 256, i.gC % 256]) ++ [((u64F i.gK) / 72057594037927936) % 256]) ++ [((u64F i.gK) / 281474976710656) % 256]) ++ [((u64F i.gK) / 1099511627776) % 256]) ++ [((u64F i.gK) / 4294967296) % 256]) ++ [((u64F i.gK) / 16777216) % 256]) ++ [((u64F i.gK) / 65536) % 256]) ++ [((u64F i.gK) / 256) % 256]) ++ [((u64F i.gK) / 1) % 256]).length) rc8] Tryd.func11 ⟨by kernel_rfl, trivial⟩ ?_
 refine hR _ _ ?_
 exact ⟨_, _, rfl, S27.pick 0 rfl⟩

end Go.Proofs.YthfpejhonhaggaaDoor
