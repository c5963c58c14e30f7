/- Walks of functions of this seat, printed by a program over the engine. Conditions: as each theorem says. -/
import Derived.Test.YthfpejhonhaggaaGreatDoorZW8
namespace Go.Proofs.YthfpejhonhaggaaGreatDoor
open Go.Eng Go.RowKit
set_option linter.unusedSimpArgs false
set_option linter.unusedVariables false
theorem hb13 : HasBody Tryz.prog 13 := fun _ _ => by kernel_rfl
noncomputable def K13_0 : List Item := adv 2 [] (bodyOf Tryz.f13)
noncomputable def K13_1 : List Item := adv 6 [] (popK K13_0)
noncomputable def K13_2 : List Item := adv 2 [] (popK (popK K13_1))
noncomputable def K13_3 : List Item := adv 5 [false] K13_2
noncomputable def K13_4 : List Item := adv 1 [] (popK K13_3)
noncomputable def K13_5 : List Item := adv 1 [] K13_4
noncomputable def K13_6 : List Item := adv 1 [] (popK K13_5)
noncomputable def K13_7 : List Item := adv 1 [] K13_6
noncomputable def K13_8 : List Item := adv 1 [] (popK K13_7)
noncomputable def K13_9 : List Item := adv 1 [] K13_8
noncomputable def K13_10 : List Item := adv 1 [] (popK K13_9)
noncomputable def K13_11 : List Item := adv 22 [true] (popK K13_10)
noncomputable def K13_12 : List Item := adv 1 [] (popK K13_11)
noncomputable def K13_13 : List Item := adv 2 [] K13_12
noncomputable def K13_14 : List Item := adv 1 [] K13_13
noncomputable def K13_15 : List Item := adv 9 [] (popK (popK K13_14))
noncomputable def K13_16 : List Item := adv 13 [true] K13_15
noncomputable def K13_17 : List Item := adv 1 [] (popK K13_16)
noncomputable def K13_18 : List Item := adv 2 [] K13_17
noncomputable def K13_19 : List Item := adv 1 [] K13_18
noncomputable def K13_20 : List Item := adv 9 [] (popK (popK K13_19))
noncomputable def K13_21 : List Item := adv 13 [true] K13_20
noncomputable def K13_22 : List Item := adv 1 [] (popK K13_21)
noncomputable def K13_23 : List Item := adv 2 [] K13_22
noncomputable def K13_24 : List Item := adv 1 [] K13_23
noncomputable def K13_25 : List Item := adv 9 [] (popK (popK K13_24))
noncomputable def K13_26 : List Item := adv 13 [true] K13_25
noncomputable def K13_27 : List Item := adv 1 [] (popK K13_26)
noncomputable def K13_28 : List Item := adv 2 [] K13_27
noncomputable def K13_29 : List Item := adv 1 [] K13_28
noncomputable def K13_30 : List Item := adv 9 [] (popK (popK K13_29))
noncomputable def K13_31 : List Item := adv 13 [true] K13_30
noncomputable def K13_32 : List Item := adv 1 [] (popK K13_31)
noncomputable def K13_33 : List Item := adv 2 [] K13_32
noncomputable def K13_34 : List Item := adv 1 [] K13_33
noncomputable def K13_35 : List Item := adv 9 [] (popK (popK K13_34))
noncomputable def K13_36 : List Item := adv 13 [true] K13_35
noncomputable def K13_37 : List Item := adv 1 [] (popK K13_36)
noncomputable def K13_38 : List Item := adv 2 [] K13_37
noncomputable def K13_39 : List Item := adv 1 [] K13_38
noncomputable def K13_40 : List Item := adv 9 [] (popK (popK K13_39))
noncomputable def K13_41 : List Item := adv 13 [true] K13_40
noncomputable def K13_42 : List Item := adv 1 [] (popK K13_41)
noncomputable def K13_43 : List Item := adv 2 [] K13_42
noncomputable def K13_44 : List Item := adv 1 [] K13_43
noncomputable def K13_45 : List Item := adv 9 [] (popK (popK K13_44))
noncomputable def K13_46 : List Item := adv 13 [true] K13_45
noncomputable def K13_47 : List Item := adv 1 [] (popK K13_46)
noncomputable def K13_48 : List Item := adv 2 [] K13_47
noncomputable def K13_49 : List Item := adv 1 [] K13_48
noncomputable def K13_50 : List Item := adv 9 [] (popK (popK K13_49))
noncomputable def K13_51 : List Item := adv 14 [false] K13_50
noncomputable def K13_52 : List Item := adv 6 [true] K13_2
set_option maxRecDepth 20000 in
set_option maxHeartbeats 20000000 in
theorem encode_any (i : Ins) (w : World) (hi : insQ w i) : Ret Tryz.prog 13 #[.agg (insA i)] w (fun v w' => ∃ a cap, v = .tuple #[.slice a (encX i).length cap, iv (encE i)] ∧ Sep w [rowOf (enc1 (Value.int .u8)) a cap 5 1 (encX i)] w') := by
 have S0 := Sep.refl w
 refine Ret.named fun R hR => ?_
 refine Ret.of_J (N := 36) [(0, .agg (insA i))] Tryz.func13 rfl rfl (Nat.le_of_ble_eq_true (by kernel_rfl)) (by kernel_rfl) ?_
 obtain ⟨q1, q2, q3, q4, q5, _⟩ := id hi
 have hu : 0 ≤ u64F i.gK ∧ u64F i.gK < 18446744073709551616 := by unfold u64F; omega
 refine J.run 2 K13_0 [(0, .agg (insA i))] w (by kernel_rfl) ?_
 refine J.new S0 1 (insC i) 44 (by kernel_rfl) ?_
 intro b1 w1 S1
 refine J.run 6 K13_1 [(1, pv b1)] w1 (by kernel_rfl) ?_
 refine J.ok (OK.ldBox S1 0 6 44 0 (.agg (insA i)) (by kernel_rfl) rfl (by kernel_rfl)) ?_
 refine J.callF 7 44 #[.agg (insA i)] hb44 (by kernel_rfl) (formed_any i _ (insQ_sep hi S1)) ?_
 rintro _ w2 ⟨rfl, T1⟩
 have S2 : Sep w [box b1 (insC i) 44] w2 := S1.trans T1
 clear T1 S1
 refine J.run 2 K13_2 [(8, .bool (!(formB i))), (1, pv b1)] w2 (by kernel_rfl) ?_
 rcases Bool.eq_false_or_eq_true (formB i) with fk1 | fk1
 ·skip
  refine J.head (.bool false) (congrArg Value.bool (by rw [fk1]; rfl)) ?_
  refine J.run 5 K13_3 [(9, pv b1), (1, pv b1)] w2 (by kernel_rfl) ?_
  refine J.ok (OK.ldBox S2 0 10 3 0 (iv i.gOp) (by kernel_rfl) rfl (by kernel_rfl)) ?_
  refine J.run 1 K13_4 [(11, .int .u8 (IntKind.wrap .u8 i.gOp)), (1, pv b1)] w2 (by kernel_rfl) ?_
  refine J.head (.int .u8 (i.gOp % 256)) (congrArg (Value.int .u8) (wrapB _)) ?_
  refine J.run 1 K13_5 [(12, .pointer (some ⟨b1, 1, none⟩)), (11, .int .u8 (i.gOp % 256)), (1, pv b1)] w2 (by kernel_rfl) ?_
  refine J.ok (OK.ldBox S2 0 13 3 1 (iv i.gA) (by kernel_rfl) rfl (by kernel_rfl)) ?_
  refine J.run 1 K13_6 [(14, .int .u8 (IntKind.wrap .u8 i.gA)), (11, .int .u8 (i.gOp % 256)), (1, pv b1)] w2 (by kernel_rfl) ?_
  refine J.head (.int .u8 (i.gA % 256)) (congrArg (Value.int .u8) (wrapB _)) ?_
  refine J.run 1 K13_7 [(15, .pointer (some ⟨b1, 2, none⟩)), (14, .int .u8 (i.gA % 256)), (11, .int .u8 (i.gOp % 256)), (1, pv b1)] w2 (by kernel_rfl) ?_
  refine J.ok (OK.ldBox S2 0 16 3 2 (iv i.gB) (by kernel_rfl) rfl (by kernel_rfl)) ?_
  refine J.run 1 K13_8 [(17, .int .u8 (IntKind.wrap .u8 i.gB)), (14, .int .u8 (i.gA % 256)), (11, .int .u8 (i.gOp % 256)), (1, pv b1)] w2 (by kernel_rfl) ?_
  refine J.head (.int .u8 (i.gB % 256)) (congrArg (Value.int .u8) (wrapB _)) ?_
  refine J.run 1 K13_9 [(18, .pointer (some ⟨b1, 3, none⟩)), (17, .int .u8 (i.gB % 256)), (14, .int .u8 (i.gA % 256)), (11, .int .u8 (i.gOp % 256)), (1, pv b1)] w2 (by kernel_rfl) ?_
  refine J.ok (OK.ldBox S2 0 19 3 3 (iv i.gC) (by kernel_rfl) rfl (by kernel_rfl)) ?_
  refine J.run 1 K13_10 [(20, .int .u8 (IntKind.wrap .u8 i.gC)), (17, .int .u8 (i.gB % 256)), (14, .int .u8 (i.gA % 256)), (11, .int .u8 (i.gOp % 256)), (1, pv b1)] w2 (by kernel_rfl) ?_
  refine J.head (.int .u8 (i.gC % 256)) (congrArg (Value.int .u8) (wrapB _)) ?_
  refine J.newSlice S2 21 4 [.int .u8 (i.gOp % 256), .int .u8 (i.gA % 256), .int .u8 (i.gB % 256), .int .u8 (i.gC % 256)] 5 (by kernel_rfl) ?_
  intro b2 w3 S3
  refine J.run 22 K13_11 [(27, .pointer (some ⟨b1, 4, none⟩)), (26, .slice (some ⟨b2, 0, none⟩) 4 4), (5, iv 56), (1, pv b1)] w3 (by kernel_rfl) ?_
  refine J.ok (OK.ldBox S3 1 28 3 4 (iv i.gK) (by kernel_rfl) rfl (by kernel_rfl)) ?_
  refine J.run 1 K13_12 [(29, .int .u64 (IntKind.wrap .u64 i.gK)), (26, .slice (some ⟨b2, 0, none⟩) 4 4), (5, iv 56), (1, pv b1)] w3 (by kernel_rfl) ?_
  refine J.head (.int .u64 (u64F i.gK)) (congrArg (Value.int .u64) (wrapU _)) ?_
  refine J.run 2 K13_13 [(31, .int .u64 (Int.fdiv (u64F i.gK) (2 ^ 56))), (26, .slice (some ⟨b2, 0, none⟩) 4 4), (5, iv 56), (1, pv b1)] w3 (by kernel_rfl) ?_
  refine J.head (.int .u64 ((u64F i.gK) / 72057594037927936)) (congrArg (Value.int .u64) (shr_lit _ _ (by decide))) ?_
  refine J.run 1 K13_14 [(32, .int .u8 (IntKind.wrap .u8 ((u64F i.gK) / 72057594037927936))), (26, .slice (some ⟨b2, 0, none⟩) 4 4), (5, iv 56), (1, pv b1)] w3 (by kernel_rfl) ?_
  refine J.head (.int .u8 (((u64F i.gK) / 72057594037927936) % 256)) (congrArg (Value.int .u8) (wrapB _)) ?_
  refine J.newSlice S3 33 1 [.int .u8 (((u64F i.gK) / 72057594037927936) % 256)] 5 (by kernel_rfl) ?_
  intro b3 w4 S4
  have S5 : Sep w [box b3 [.int .u8 (((u64F i.gK) / 72057594037927936) % 256)] 5, rowOf (enc1 (Value.int .u8)) (some ⟨b2, 0, none⟩) 4 5 1 ([i.gOp % 256, i.gA % 256, i.gB % 256, i.gC % 256]), box b1 (insC i) 44] w4 := box_row (enc1 (Value.int .u8)) S4 1 [i.gOp % 256, i.gA % 256, i.gB % 256, i.gC % 256] 1 rfl rfl rfl (by simp [maxLen]) (.inr trivial)
  refine J.append (enc1 (Value.int .u8)) S5 1 ([i.gOp % 256, i.gA % 256, i.gB % 256, i.gC % 256]) (((u64F i.gK) / 72057594037927936) % 256) 34 40 (.int .u8 0) 1 ⟨b3, 0, none⟩ 1 rfl (by kernel_rfl) (by kernel_rfl) (by kernel_rfl) (by kernel_rfl) (by decide) (box_cells (S5.nth 0 rfl)) (by kernel_rfl) (by kernel_rfl) (⟨by (try simp only [List.length_append, List.length_cons, List.length_nil]); omega, by (try simp only [List.length_append, List.length_cons, List.length_nil]); omega⟩) ?_
  intro ra1 rc1 w5 S6
  replace S6 : Sep w [box b3 [.int .u8 (((u64F i.gK) / 72057594037927936) % 256)] 5, rowOf (enc1 (Value.int .u8)) ra1 rc1 5 1 (([i.gOp % 256, i.gA % 256, i.gB % 256, i.gC % 256]) ++ [((u64F i.gK) / 72057594037927936) % 256]), box b1 (insC i) 44] w5 := S6
  have S7 : Sep w [rowOf (enc1 (Value.int .u8)) ra1 rc1 5 1 (([i.gOp % 256, i.gA % 256, i.gB % 256, i.gC % 256]) ++ [((u64F i.gK) / 72057594037927936) % 256]), box b1 (insC i) 44] w5 := S6.erase 0
  clear S6
  refine J.run 9 K13_15 [(5, iv 48), (4, .slice ra1 ((([i.gOp % 256, i.gA % 256, i.gB % 256, i.gC % 256]) ++ [((u64F i.gK) / 72057594037927936) % 256]).length) rc1), (1, pv b1)] w5 (by kernel_rfl) ?_
  refine J.run 13 K13_16 [(27, .pointer (some ⟨b1, 4, none⟩)), (26, .slice ra1 ((([i.gOp % 256, i.gA % 256, i.gB % 256, i.gC % 256]) ++ [((u64F i.gK) / 72057594037927936) % 256]).length) rc1), (5, iv 48), (1, pv b1)] w5 (by kernel_rfl) ?_
  refine J.ok (OK.ldBox S7 1 28 3 4 (iv i.gK) (by kernel_rfl) rfl (by kernel_rfl)) ?_
  refine J.run 1 K13_17 [(29, .int .u64 (IntKind.wrap .u64 i.gK)), (26, .slice ra1 ((([i.gOp % 256, i.gA % 256, i.gB % 256, i.gC % 256]) ++ [((u64F i.gK) / 72057594037927936) % 256]).length) rc1), (5, iv 48), (1, pv b1)] w5 (by kernel_rfl) ?_
  refine J.head (.int .u64 (u64F i.gK)) (congrArg (Value.int .u64) (wrapU _)) ?_
  refine J.run 2 K13_18 [(31, .int .u64 (Int.fdiv (u64F i.gK) (2 ^ 48))), (26, .slice ra1 ((([i.gOp % 256, i.gA % 256, i.gB % 256, i.gC % 256]) ++ [((u64F i.gK) / 72057594037927936) % 256]).length) rc1), (5, iv 48), (1, pv b1)] w5 (by kernel_rfl) ?_
  refine J.head (.int .u64 ((u64F i.gK) / 281474976710656)) (congrArg (Value.int .u64) (shr_lit _ _ (by decide))) ?_
  refine J.run 1 K13_19 [(32, .int .u8 (IntKind.wrap .u8 ((u64F i.gK) / 281474976710656))), (26, .slice ra1 ((([i.gOp % 256, i.gA % 256, i.gB % 256, i.gC % 256]) ++ [((u64F i.gK) / 72057594037927936) % 256]).length) rc1), (5, iv 48), (1, pv b1)] w5 (by kernel_rfl) ?_
  refine J.head (.int .u8 (((u64F i.gK) / 281474976710656) % 256)) (congrArg (Value.int .u8) (wrapB _)) ?_
  refine J.newSlice S7 33 1 [.int .u8 (((u64F i.gK) / 281474976710656) % 256)] 5 (by kernel_rfl) ?_
  intro b4 w6 S8
  refine J.append (enc1 (Value.int .u8)) S8 1 (([i.gOp % 256, i.gA % 256, i.gB % 256, i.gC % 256]) ++ [((u64F i.gK) / 72057594037927936) % 256]) (((u64F i.gK) / 281474976710656) % 256) 34 40 (.int .u8 0) 1 ⟨b4, 0, none⟩ 1 rfl (by kernel_rfl) (by kernel_rfl) (by kernel_rfl) (by kernel_rfl) (by decide) (box_cells (S8.nth 0 rfl)) (by kernel_rfl) (by kernel_rfl) (⟨by (try simp only [List.length_append, List.length_cons, List.length_nil]); omega, by (try simp only [List.length_append, List.length_cons, List.length_nil]); omega⟩) ?_
  intro ra2 rc2 w7 S9
  replace S9 : Sep w [box b4 [.int .u8 (((u64F i.gK) / 281474976710656) % 256)] 5, rowOf (enc1 (Value.int .u8)) ra2 rc2 5 1 ((([i.gOp % 256, i.gA % 256, i.gB % 256, i.gC % 256]) ++ [((u64F i.gK) / 72057594037927936) % 256]) ++ [((u64F i.gK) / 281474976710656) % 256]), box b1 (insC i) 44] w7 := S9
  have S10 : Sep w [rowOf (enc1 (Value.int .u8)) ra2 rc2 5 1 ((([i.gOp % 256, i.gA % 256, i.gB % 256, i.gC % 256]) ++ [((u64F i.gK) / 72057594037927936) % 256]) ++ [((u64F i.gK) / 281474976710656) % 256]), box b1 (insC i) 44] w7 := S9.erase 0
  clear S9
  refine J.run 9 K13_20 [(5, iv 40), (4, .slice ra2 (((([i.gOp % 256, i.gA % 256, i.gB % 256, i.gC % 256]) ++ [((u64F i.gK) / 72057594037927936) % 256]) ++ [((u64F i.gK) / 281474976710656) % 256]).length) rc2), (1, pv b1)] w7 (by kernel_rfl) ?_
  refine J.run 13 K13_21 [(27, .pointer (some ⟨b1, 4, none⟩)), (26, .slice ra2 (((([i.gOp % 256, i.gA % 256, i.gB % 256, i.gC % 256]) ++ [((u64F i.gK) / 72057594037927936) % 256]) ++ [((u64F i.gK) / 281474976710656) % 256]).length) rc2), (5, iv 40), (1, pv b1)] w7 (by kernel_rfl) ?_
  refine J.ok (OK.ldBox S10 1 28 3 4 (iv i.gK) (by kernel_rfl) rfl (by kernel_rfl)) ?_
  refine J.run 1 K13_22 [(29, .int .u64 (IntKind.wrap .u64 i.gK)), (26, .slice ra2 (((([i.gOp % 256, i.gA % 256, i.gB % 256, i.gC % 256]) ++ [((u64F i.gK) / 72057594037927936) % 256]) ++ [((u64F i.gK) / 281474976710656) % 256]).length) rc2), (5, iv 40), (1, pv b1)] w7 (by kernel_rfl) ?_
  refine J.head (.int .u64 (u64F i.gK)) (congrArg (Value.int .u64) (wrapU _)) ?_
  refine J.run 2 K13_23 [(31, .int .u64 (Int.fdiv (u64F i.gK) (2 ^ 40))), (26, .slice ra2 (((([i.gOp % 256, i.gA % 256, i.gB % 256, i.gC % 256]) ++ [((u64F i.gK) / 72057594037927936) % 256]) ++ [((u64F i.gK) / 281474976710656) % 256]).length) rc2), (5, iv 40), (1, pv b1)] w7 (by kernel_rfl) ?_
  refine J.head (.int .u64 ((u64F i.gK) / 1099511627776)) (congrArg (Value.int .u64) (shr_lit _ _ (by decide))) ?_
  refine J.run 1 K13_24 [(32, .int .u8 (IntKind.wrap .u8 ((u64F i.gK) / 1099511627776))), (26, .slice ra2 (((([i.gOp % 256, i.gA % 256, i.gB % 256, i.gC % 256]) ++ [((u64F i.gK) / 72057594037927936) % 256]) ++ [((u64F i.gK) / 281474976710656) % 256]).length) rc2), (5, iv 40), (1, pv b1)] w7 (by kernel_rfl) ?_
  refine J.head (.int .u8 (((u64F i.gK) / 1099511627776) % 256)) (congrArg (Value.int .u8) (wrapB _)) ?_
  refine J.newSlice S10 33 1 [.int .u8 (((u64F i.gK) / 1099511627776) % 256)] 5 (by kernel_rfl) ?_
  intro b5 w8 S11
  refine J.append (enc1 (Value.int .u8)) S11 1 ((([i.gOp % 256, i.gA % 256, i.gB % 256, i.gC % 256]) ++ [((u64F i.gK) / 72057594037927936) % 256]) ++ [((u64F i.gK) / 281474976710656) % 256]) (((u64F i.gK) / 1099511627776) % 256) 34 40 (.int .u8 0) 1 ⟨b5, 0, none⟩ 1 rfl (by kernel_rfl) (by kernel_rfl) (by kernel_rfl) (by kernel_rfl) (by decide) (box_cells (S11.nth 0 rfl)) (by kernel_rfl) (by kernel_rfl) (⟨by (try simp only [List.length_append, List.length_cons, List.length_nil]); omega, by (try simp only [List.length_append, List.length_cons, List.length_nil]); omega⟩) ?_
  intro ra3 rc3 w9 S12
  replace S12 : Sep w [box b5 [.int .u8 (((u64F i.gK) / 1099511627776) % 256)] 5, rowOf (enc1 (Value.int .u8)) ra3 rc3 5 1 (((([i.gOp % 256, i.gA % 256, i.gB % 256, i.gC % 256]) ++ [((u64F i.gK) / 72057594037927936) % 256]) ++ [((u64F i.gK) / 281474976710656) % 256]) ++ [((u64F i.gK) / 1099511627776) % 256]), box b1 (insC i) 44] w9 := S12
  have S13 : Sep w [rowOf (enc1 (Value.int .u8)) ra3 rc3 5 1 (((([i.gOp % 256, i.gA % 256, i.gB % 256, i.gC % 256]) ++ [((u64F i.gK) / 72057594037927936) % 256]) ++ [((u64F i.gK) / 281474976710656) % 256]) ++ [((u64F i.gK) / 1099511627776) % 256]), box b1 (insC i) 44] w9 := S12.erase 0
  clear S12
  refine J.run 9 K13_25 [(5, iv 32), (4, .slice ra3 ((((([i.gOp % 256, i.gA % 256, i.gB % 256, i.gC % 256]) ++ [((u64F i.gK) / 72057594037927936) % 256]) ++ [((u64F i.gK) / 281474976710656) % 256]) ++ [((u64F i.gK) / 1099511627776) % 256]).length) rc3), (1, pv b1)] w9 (by kernel_rfl) ?_
  refine J.run 13 K13_26 [(27, .pointer (some ⟨b1, 4, none⟩)), (26, .slice ra3 ((((([i.gOp % 256, i.gA % 256, i.gB % 256, i.gC % 256]) ++ [((u64F i.gK) / 72057594037927936) % 256]) ++ [((u64F i.gK) / 281474976710656) % 256]) ++ [((u64F i.gK) / 1099511627776) % 256]).length) rc3), (5, iv 32), (1, pv b1)] w9 (by kernel_rfl) ?_
  refine J.ok (OK.ldBox S13 1 28 3 4 (iv i.gK) (by kernel_rfl) rfl (by kernel_rfl)) ?_
  refine J.run 1 K13_27 [(29, .int .u64 (IntKind.wrap .u64 i.gK)), (26, .slice ra3 ((((([i.gOp % 256, i.gA % 256, i.gB % 256, i.gC % 256]) ++ [((u64F i.gK) / 72057594037927936) % 256]) ++ [((u64F i.gK) / 281474976710656) % 256]) ++ [((u64F i.gK) / 1099511627776) % 256]).length) rc3), (5, iv 32), (1, pv b1)] w9 (by kernel_rfl) ?_
  refine J.head (.int .u64 (u64F i.gK)) (congrArg (Value.int .u64) (wrapU _)) ?_
  refine J.run 2 K13_28 [(31, .int .u64 (Int.fdiv (u64F i.gK) (2 ^ 32))), (26, .slice ra3 ((((([i.gOp % 256, i.gA % 256, i.gB % 256, i.gC % 256]) ++ [((u64F i.gK) / 72057594037927936) % 256]) ++ [((u64F i.gK) / 281474976710656) % 256]) ++ [((u64F i.gK) / 1099511627776) % 256]).length) rc3), (5, iv 32), (1, pv b1)] w9 (by kernel_rfl) ?_
  refine J.head (.int .u64 ((u64F i.gK) / 4294967296)) (congrArg (Value.int .u64) (shr_lit _ _ (by decide))) ?_
  refine J.run 1 K13_29 [(32, .int .u8 (IntKind.wrap .u8 ((u64F i.gK) / 4294967296))), (26, .slice ra3 ((((([i.gOp % 256, i.gA % 256, i.gB % 256, i.gC % 256]) ++ [((u64F i.gK) / 72057594037927936) % 256]) ++ [((u64F i.gK) / 281474976710656) % 256]) ++ [((u64F i.gK) / 1099511627776) % 256]).length) rc3), (5, iv 32), (1, pv b1)] w9 (by kernel_rfl) ?_
  refine J.head (.int .u8 (((u64F i.gK) / 4294967296) % 256)) (congrArg (Value.int .u8) (wrapB _)) ?_
  refine J.newSlice S13 33 1 [.int .u8 (((u64F i.gK) / 4294967296) % 256)] 5 (by kernel_rfl) ?_
  intro b6 w10 S14
  refine J.append (enc1 (Value.int .u8)) S14 1 (((([i.gOp % 256, i.gA % 256, i.gB % 256, i.gC % 256]) ++ [((u64F i.gK) / 72057594037927936) % 256]) ++ [((u64F i.gK) / 281474976710656) % 256]) ++ [((u64F i.gK) / 1099511627776) % 256]) (((u64F i.gK) / 4294967296) % 256) 34 40 (.int .u8 0) 1 ⟨b6, 0, none⟩ 1 rfl (by kernel_rfl) (by kernel_rfl) (by kernel_rfl) (by kernel_rfl) (by decide) (box_cells (S14.nth 0 rfl)) (by kernel_rfl) (by kernel_rfl) (⟨by (try simp only [List.length_append, List.length_cons, List.length_nil]); omega, by (try simp only [List.length_append, List.length_cons, List.length_nil]); omega⟩) ?_
  intro ra4 rc4 w11 S15
  replace S15 : Sep w [box b6 [.int .u8 (((u64F i.gK) / 4294967296) % 256)] 5, rowOf (enc1 (Value.int .u8)) ra4 rc4 5 1 ((((([i.gOp % 256, i.gA % 256, i.gB % 256, i.gC % 256]) ++ [((u64F i.gK) / 72057594037927936) % 256]) ++ [((u64F i.gK) / 281474976710656) % 256]) ++ [((u64F i.gK) / 1099511627776) % 256]) ++ [((u64F i.gK) / 4294967296) % 256]), box b1 (insC i) 44] w11 := S15
  have S16 : Sep w [rowOf (enc1 (Value.int .u8)) ra4 rc4 5 1 ((((([i.gOp % 256, i.gA % 256, i.gB % 256, i.gC % 256]) ++ [((u64F i.gK) / 72057594037927936) % 256]) ++ [((u64F i.gK) / 281474976710656) % 256]) ++ [((u64F i.gK) / 1099511627776) % 256]) ++ [((u64F i.gK) / 4294967296) % 256]), box b1 (insC i) 44] w11 := S15.erase 0
  clear S15
  refine J.run 9 K13_30 [(5, iv 24), (4, .slice ra4 (((((([i.gOp % 256, i.gA % 256, i.gB % 256, i.gC % 256]) ++ [((u64F i.gK) / 72057594037927936) % 256]) ++ [((u64F i.gK) / 281474976710656) % 256]) ++ [((u64F i.gK) / 1099511627776) % 256]) ++ [((u64F i.gK) / 4294967296) % 256]).length) rc4), (1, pv b1)] w11 (by kernel_rfl) ?_
  refine J.run 13 K13_31 [(27, .pointer (some ⟨b1, 4, none⟩)), (26, .slice ra4 (((((([i.gOp % 256, i.gA % 256, i.gB % 256, i.gC % 256]) ++ [((u64F i.gK) / 72057594037927936) % 256]) ++ [((u64F i.gK) / 281474976710656) % 256]) ++ [((u64F i.gK) / 1099511627776) % 256]) ++ [((u64F i.gK) / 4294967296) % 256]).length) rc4), (5, iv 24), (1, pv b1)] w11 (by kernel_rfl) ?_
  refine J.ok (OK.ldBox S16 1 28 3 4 (iv i.gK) (by kernel_rfl) rfl (by kernel_rfl)) ?_
  refine J.run 1 K13_32 [(29, .int .u64 (IntKind.wrap .u64 i.gK)), (26, .slice ra4 (((((([i.gOp % 256, i.gA % 256, i.gB % 256, i.gC % 256]) ++ [((u64F i.gK) / 72057594037927936) % 256]) ++ [((u64F i.gK) / 281474976710656) % 256]) ++ [((u64F i.gK) / 1099511627776) % 256]) ++ [((u64F i.gK) / 4294967296) % 256]).length) rc4), (5, iv 24), (1, pv b1)] w11 (by kernel_rfl) ?_
  refine J.head (.int .u64 (u64F i.gK)) (congrArg (Value.int .u64) (wrapU _)) ?_
  refine J.run 2 K13_33 [(31, .int .u64 (Int.fdiv (u64F i.gK) (2 ^ 24))), (26, .slice ra4 (((((([i.gOp % 256, i.gA % 256, i.gB % 256, i.gC % 256]) ++ [((u64F i.gK) / 72057594037927936) % 256]) ++ [((u64F i.gK) / 281474976710656) % 256]) ++ [((u64F i.gK) / 1099511627776) % 256]) ++ [((u64F i.gK) / 4294967296) % 256]).length) rc4), (5, iv 24), (1, pv b1)] w11 (by kernel_rfl) ?_
  refine J.head (.int .u64 ((u64F i.gK) / 16777216)) (congrArg (Value.int .u64) (shr_lit _ _ (by decide))) ?_
  refine J.run 1 K13_34 [(32, .int .u8 (IntKind.wrap .u8 ((u64F i.gK) / 16777216))), (26, .slice ra4 (((((([i.gOp % 256, i.gA % 256, i.gB % 256, i.gC % 256]) ++ [((u64F i.gK) / 72057594037927936) % 256]) ++ [((u64F i.gK) / 281474976710656) % 256]) ++ [((u64F i.gK) / 1099511627776) % 256]) ++ [((u64F i.gK) / 4294967296) % 256]).length) rc4), (5, iv 24), (1, pv b1)] w11 (by kernel_rfl) ?_
  refine J.head (.int .u8 (((u64F i.gK) / 16777216) % 256)) (congrArg (Value.int .u8) (wrapB _)) ?_
  refine J.newSlice S16 33 1 [.int .u8 (((u64F i.gK) / 16777216) % 256)] 5 (by kernel_rfl) ?_
  intro b7 w12 S17
  refine J.append (enc1 (Value.int .u8)) S17 1 ((((([i.gOp % 256, i.gA % 256, i.gB % 256, i.gC % 256]) ++ [((u64F i.gK) / 72057594037927936) % 256]) ++ [((u64F i.gK) / 281474976710656) % 256]) ++ [((u64F i.gK) / 1099511627776) % 256]) ++ [((u64F i.gK) / 4294967296) % 256]) (((u64F i.gK) / 16777216) % 256) 34 40 (.int .u8 0) 1 ⟨b7, 0, none⟩ 1 rfl (by kernel_rfl) (by kernel_rfl) (by kernel_rfl) (by kernel_rfl) (by decide) (box_cells (S17.nth 0 rfl)) (by kernel_rfl) (by kernel_rfl) (⟨by (try simp only [List.length_append, List.length_cons, List.length_nil]); omega, by (try simp only [List.length_append, List.length_cons, List.length_nil]); omega⟩) ?_
  intro ra5 rc5 w13 S18
  replace S18 : Sep w [box b7 [.int .u8 (((u64F i.gK) / 16777216) % 256)] 5, rowOf (enc1 (Value.int .u8)) ra5 rc5 5 1 (((((([i.gOp % 256, i.gA % 256, i.gB % 256, i.gC % 256]) ++ [((u64F i.gK) / 72057594037927936) % 256]) ++ [((u64F i.gK) / 281474976710656) % 256]) ++ [((u64F i.gK) / 1099511627776) % 256]) ++ [((u64F i.gK) / 4294967296) % 256]) ++ [((u64F i.gK) / 16777216) % 256]), box b1 (insC i) 44] w13 := S18
  have S19 : Sep w [rowOf (enc1 (Value.int .u8)) ra5 rc5 5 1 (((((([i.gOp % 256, i.gA % 256, i.gB % 256, i.gC % 256]) ++ [((u64F i.gK) / 72057594037927936) % 256]) ++ [((u64F i.gK) / 281474976710656) % 256]) ++ [((u64F i.gK) / 1099511627776) % 256]) ++ [((u64F i.gK) / 4294967296) % 256]) ++ [((u64F i.gK) / 16777216) % 256]), box b1 (insC i) 44] w13 := S18.erase 0
  clear S18
  refine J.run 9 K13_35 [(5, iv 16), (4, .slice ra5 ((((((([i.gOp % 256, i.gA % 256, i.gB % 256, i.gC % 256]) ++ [((u64F i.gK) / 72057594037927936) % 256]) ++ [((u64F i.gK) / 281474976710656) % 256]) ++ [((u64F i.gK) / 1099511627776) % 256]) ++ [((u64F i.gK) / 4294967296) % 256]) ++ [((u64F i.gK) / 16777216) % 256]).length) rc5), (1, pv b1)] w13 (by kernel_rfl) ?_
  refine J.run 13 K13_36 [(27, .pointer (some ⟨b1, 4, none⟩)), (26, .slice ra5 ((((((([i.gOp % 256, i.gA % 256, i.gB % 256, i.gC % 256]) ++ [((u64F i.gK) / 72057594037927936) % 256]) ++ [((u64F i.gK) / 281474976710656) % 256]) ++ [((u64F i.gK) / 1099511627776) % 256]) ++ [((u64F i.gK) / 4294967296) % 256]) ++ [((u64F i.gK) / 16777216) % 256]).length) rc5), (5, iv 16), (1, pv b1)] w13 (by kernel_rfl) ?_
  refine J.ok (OK.ldBox S19 1 28 3 4 (iv i.gK) (by kernel_rfl) rfl (by kernel_rfl)) ?_
  refine J.run 1 K13_37 [(29, .int .u64 (IntKind.wrap .u64 i.gK)), (26, .slice ra5 ((((((([i.gOp % 256, i.gA % 256, i.gB % 256, i.gC % 256]) ++ [((u64F i.gK) / 72057594037927936) % 256]) ++ [((u64F i.gK) / 281474976710656) % 256]) ++ [((u64F i.gK) / 1099511627776) % 256]) ++ [((u64F i.gK) / 4294967296) % 256]) ++ [((u64F i.gK) / 16777216) % 256]).length) rc5), (5, iv 16), (1, pv b1)] w13 (by kernel_rfl) ?_
  refine J.head (.int .u64 (u64F i.gK)) (congrArg (Value.int .u64) (wrapU _)) ?_
  refine J.run 2 K13_38 [(31, .int .u64 (Int.fdiv (u64F i.gK) (2 ^ 16))), (26, .slice ra5 ((((((([i.gOp % 256, i.gA % 256, i.gB % 256, i.gC % 256]) ++ [((u64F i.gK) / 72057594037927936) % 256]) ++ [((u64F i.gK) / 281474976710656) % 256]) ++ [((u64F i.gK) / 1099511627776) % 256]) ++ [((u64F i.gK) / 4294967296) % 256]) ++ [((u64F i.gK) / 16777216) % 256]).length) rc5), (5, iv 16), (1, pv b1)] w13 (by kernel_rfl) ?_
  refine J.head (.int .u64 ((u64F i.gK) / 65536)) (congrArg (Value.int .u64) (shr_lit _ _ (by decide))) ?_
  refine J.run 1 K13_39 [(32, .int .u8 (IntKind.wrap .u8 ((u64F i.gK) / 65536))), (26, .slice ra5 ((((((([i.gOp % 256, i.gA % 256, i.gB % 256, i.gC % 256]) ++ [((u64F i.gK) / 72057594037927936) % 256]) ++ [((u64F i.gK) / 281474976710656) % 256]) ++ [((u64F i.gK) / 1099511627776) % 256]) ++ [((u64F i.gK) / 4294967296) % 256]) ++ [((u64F i.gK) / 16777216) % 256]).length) rc5), (5, iv 16), (1, pv b1)] w13 (by kernel_rfl) ?_
  refine J.head (.int .u8 (((u64F i.gK) / 65536) % 256)) (congrArg (Value.int .u8) (wrapB _)) ?_
  refine J.newSlice S19 33 1 [.int .u8 (((u64F i.gK) / 65536) % 256)] 5 (by kernel_rfl) ?_
  intro b8 w14 S20
  refine J.append (enc1 (Value.int .u8)) S20 1 (((((([i.gOp % 256, i.gA % 256, i.gB % 256, i.gC % 256]) ++ [((u64F i.gK) / 72057594037927936) % 256]) ++ [((u64F i.gK) / 281474976710656) % 256]) ++ [((u64F i.gK) / 1099511627776) % 256]) ++ [((u64F i.gK) / 4294967296) % 256]) ++ [((u64F i.gK) / 16777216) % 256]) (((u64F i.gK) / 65536) % 256) 34 40 (.int .u8 0) 1 ⟨b8, 0, none⟩ 1 rfl (by kernel_rfl) (by kernel_rfl) (by kernel_rfl) (by kernel_rfl) (by decide) (box_cells (S20.nth 0 rfl)) (by kernel_rfl) (by kernel_rfl) (⟨by (try simp only [List.length_append, List.length_cons, List.length_nil]); omega, by (try simp only [List.length_append, List.length_cons, List.length_nil]); omega⟩) ?_
  intro ra6 rc6 w15 S21
  replace S21 : Sep w [box b8 [.int .u8 (((u64F i.gK) / 65536) % 256)] 5, rowOf (enc1 (Value.int .u8)) ra6 rc6 5 1 ((((((([i.gOp % 256, i.gA % 256, i.gB % 256, i.gC % 256]) ++ [((u64F i.gK) / 72057594037927936) % 256]) ++ [((u64F i.gK) / 281474976710656) % 256]) ++ [((u64F i.gK) / 1099511627776) % 256]) ++ [((u64F i.gK) / 4294967296) % 256]) ++ [((u64F i.gK) / 16777216) % 256]) ++ [((u64F i.gK) / 65536) % 256]), box b1 (insC i) 44] w15 := S21
  have S22 : Sep w [rowOf (enc1 (Value.int .u8)) ra6 rc6 5 1 ((((((([i.gOp % 256, i.gA % 256, i.gB % 256, i.gC % 256]) ++ [((u64F i.gK) / 72057594037927936) % 256]) ++ [((u64F i.gK) / 281474976710656) % 256]) ++ [((u64F i.gK) / 1099511627776) % 256]) ++ [((u64F i.gK) / 4294967296) % 256]) ++ [((u64F i.gK) / 16777216) % 256]) ++ [((u64F i.gK) / 65536) % 256]), box b1 (insC i) 44] w15 := S21.erase 0
  clear S21
  refine J.run 9 K13_40 [(5, iv 8), (4, .slice ra6 (((((((([i.gOp % 256, i.gA % 256, i.gB % 256, i.gC % 256]) ++ [((u64F i.gK) / 72057594037927936) % 256]) ++ [((u64F i.gK) / 281474976710656) % 256]) ++ [((u64F i.gK) / 1099511627776) % 256]) ++ [((u64F i.gK) / 4294967296) % 256]) ++ [((u64F i.gK) / 16777216) % 256]) ++ [((u64F i.gK) / 65536) % 256]).length) rc6), (1, pv b1)] w15 (by kernel_rfl) ?_
  refine J.run 13 K13_41 [(27, .pointer (some ⟨b1, 4, none⟩)), (26, .slice ra6 (((((((([i.gOp % 256, i.gA % 256, i.gB % 256, i.gC % 256]) ++ [((u64F i.gK) / 72057594037927936) % 256]) ++ [((u64F i.gK) / 281474976710656) % 256]) ++ [((u64F i.gK) / 1099511627776) % 256]) ++ [((u64F i.gK) / 4294967296) % 256]) ++ [((u64F i.gK) / 16777216) % 256]) ++ [((u64F i.gK) / 65536) % 256]).length) rc6), (5, iv 8), (1, pv b1)] w15 (by kernel_rfl) ?_
  refine J.ok (OK.ldBox S22 1 28 3 4 (iv i.gK) (by kernel_rfl) rfl (by kernel_rfl)) ?_
  refine J.run 1 K13_42 [(29, .int .u64 (IntKind.wrap .u64 i.gK)), (26, .slice ra6 (((((((([i.gOp % 256, i.gA % 256, i.gB % 256, i.gC % 256]) ++ [((u64F i.gK) / 72057594037927936) % 256]) ++ [((u64F i.gK) / 281474976710656) % 256]) ++ [((u64F i.gK) / 1099511627776) % 256]) ++ [((u64F i.gK) / 4294967296) % 256]) ++ [((u64F i.gK) / 16777216) % 256]) ++ [((u64F i.gK) / 65536) % 256]).length) rc6), (5, iv 8), (1, pv b1)] w15 (by kernel_rfl) ?_
  refine J.head (.int .u64 (u64F i.gK)) (congrArg (Value.int .u64) (wrapU _)) ?_
  refine J.run 2 K13_43 [(31, .int .u64 (Int.fdiv (u64F i.gK) (2 ^ 8))), (26, .slice ra6 (((((((([i.gOp % 256, i.gA % 256, i.gB % 256, i.gC % 256]) ++ [((u64F i.gK) / 72057594037927936) % 256]) ++ [((u64F i.gK) / 281474976710656) % 256]) ++ [((u64F i.gK) / 1099511627776) % 256]) ++ [((u64F i.gK) / 4294967296) % 256]) ++ [((u64F i.gK) / 16777216) % 256]) ++ [((u64F i.gK) / 65536) % 256]).length) rc6), (5, iv 8), (1, pv b1)] w15 (by kernel_rfl) ?_
  refine J.head (.int .u64 ((u64F i.gK) / 256)) (congrArg (Value.int .u64) (shr_lit _ _ (by decide))) ?_
  refine J.run 1 K13_44 [(32, .int .u8 (IntKind.wrap .u8 ((u64F i.gK) / 256))), (26, .slice ra6 (((((((([i.gOp % 256, i.gA % 256, i.gB % 256, i.gC % 256]) ++ [((u64F i.gK) / 72057594037927936) % 256]) ++ [((u64F i.gK) / 281474976710656) % 256]) ++ [((u64F i.gK) / 1099511627776) % 256]) ++ [((u64F i.gK) / 4294967296) % 256]) ++ [((u64F i.gK) / 16777216) % 256]) ++ [((u64F i.gK) / 65536) % 256]).length) rc6), (5, iv 8), (1, pv b1)] w15 (by kernel_rfl) ?_
  refine J.head (.int .u8 (((u64F i.gK) / 256) % 256)) (congrArg (Value.int .u8) (wrapB _)) ?_
  refine J.newSlice S22 33 1 [.int .u8 (((u64F i.gK) / 256) % 256)] 5 (by kernel_rfl) ?_
  intro b9 w16 S23
  refine J.append (enc1 (Value.int .u8)) S23 1 ((((((([i.gOp % 256, i.gA % 256, i.gB % 256, i.gC % 256]) ++ [((u64F i.gK) / 72057594037927936) % 256]) ++ [((u64F i.gK) / 281474976710656) % 256]) ++ [((u64F i.gK) / 1099511627776) % 256]) ++ [((u64F i.gK) / 4294967296) % 256]) ++ [((u64F i.gK) / 16777216) % 256]) ++ [((u64F i.gK) / 65536) % 256]) (((u64F i.gK) / 256) % 256) 34 40 (.int .u8 0) 1 ⟨b9, 0, none⟩ 1 rfl (by kernel_rfl) (by kernel_rfl) (by kernel_rfl) (by kernel_rfl) (by decide) (box_cells (S23.nth 0 rfl)) (by kernel_rfl) (by kernel_rfl) (⟨by (try simp only [List.length_append, List.length_cons, List.length_nil]); omega, by (try simp only [List.length_append, List.length_cons, List.length_nil]); omega⟩) ?_
  intro ra7 rc7 w17 S24
  replace S24 : Sep w [box b9 [.int .u8 (((u64F i.gK) / 256) % 256)] 5, rowOf (enc1 (Value.int .u8)) ra7 rc7 5 1 (((((((([i.gOp % 256, i.gA % 256, i.gB % 256, i.gC % 256]) ++ [((u64F i.gK) / 72057594037927936) % 256]) ++ [((u64F i.gK) / 281474976710656) % 256]) ++ [((u64F i.gK) / 1099511627776) % 256]) ++ [((u64F i.gK) / 4294967296) % 256]) ++ [((u64F i.gK) / 16777216) % 256]) ++ [((u64F i.gK) / 65536) % 256]) ++ [((u64F i.gK) / 256) % 256]), box b1 (insC i) 44] w17 := S24
  have S25 : Sep w [rowOf (enc1 (Value.int .u8)) ra7 rc7 5 1 (((((((([i.gOp % 256, i.gA % 256, i.gB % 256, i.gC % 256]) ++ [((u64F i.gK) / 72057594037927936) % 256]) ++ [((u64F i.gK) / 281474976710656) % 256]) ++ [((u64F i.gK) / 1099511627776) % 256]) ++ [((u64F i.gK) / 4294967296) % 256]) ++ [((u64F i.gK) / 16777216) % 256]) ++ [((u64F i.gK) / 65536) % 256]) ++ [((u64F i.gK) / 256) % 256]), box b1 (insC i) 44] w17 := S24.erase 0
  clear S24
  refine J.run 9 K13_45 [(5, iv 0), (4, .slice ra7 ((((((((([i.gOp % 256, i.gA % 256, i.gB % 256, i.gC % 256]) ++ [((u64F i.gK) / 72057594037927936) % 256]) ++ [((u64F i.gK) / 281474976710656) % 256]) ++ [((u64F i.gK) / 1099511627776) % 256]) ++ [((u64F i.gK) / 4294967296) % 256]) ++ [((u64F i.gK) / 16777216) % 256]) ++ [((u64F i.gK) / 65536) % 256]) ++ [((u64F i.gK) / 256) % 256]).length) rc7), (1, pv b1)] w17 (by kernel_rfl) ?_
  refine J.run 13 K13_46 [(27, .pointer (some ⟨b1, 4, none⟩)), (26, .slice ra7 ((((((((([i.gOp % 256, i.gA % 256, i.gB % 256, i.gC % 256]) ++ [((u64F i.gK) / 72057594037927936) % 256]) ++ [((u64F i.gK) / 281474976710656) % 256]) ++ [((u64F i.gK) / 1099511627776) % 256]) ++ [((u64F i.gK) / 4294967296) % 256]) ++ [((u64F i.gK) / 16777216) % 256]) ++ [((u64F i.gK) / 65536) % 256]) ++ [((u64F i.gK) / 256) % 256]).length) rc7), (5, iv 0), (1, pv b1)] w17 (by kernel_rfl) ?_
  refine J.ok (OK.ldBox S25 1 28 3 4 (iv i.gK) (by kernel_rfl) rfl (by kernel_rfl)) ?_
  refine J.run 1 K13_47 [(29, .int .u64 (IntKind.wrap .u64 i.gK)), (26, .slice ra7 ((((((((([i.gOp % 256, i.gA % 256, i.gB % 256, i.gC % 256]) ++ [((u64F i.gK) / 72057594037927936) % 256]) ++ [((u64F i.gK) / 281474976710656) % 256]) ++ [((u64F i.gK) / 1099511627776) % 256]) ++ [((u64F i.gK) / 4294967296) % 256]) ++ [((u64F i.gK) / 16777216) % 256]) ++ [((u64F i.gK) / 65536) % 256]) ++ [((u64F i.gK) / 256) % 256]).length) rc7), (5, iv 0), (1, pv b1)] w17 (by kernel_rfl) ?_
  refine J.head (.int .u64 (u64F i.gK)) (congrArg (Value.int .u64) (wrapU _)) ?_
  refine J.run 2 K13_48 [(31, .int .u64 (Int.fdiv (u64F i.gK) (2 ^ 0))), (26, .slice ra7 ((((((((([i.gOp % 256, i.gA % 256, i.gB % 256, i.gC % 256]) ++ [((u64F i.gK) / 72057594037927936) % 256]) ++ [((u64F i.gK) / 281474976710656) % 256]) ++ [((u64F i.gK) / 1099511627776) % 256]) ++ [((u64F i.gK) / 4294967296) % 256]) ++ [((u64F i.gK) / 16777216) % 256]) ++ [((u64F i.gK) / 65536) % 256]) ++ [((u64F i.gK) / 256) % 256]).length) rc7), (5, iv 0), (1, pv b1)] w17 (by kernel_rfl) ?_
  refine J.head (.int .u64 ((u64F i.gK) / 1)) (congrArg (Value.int .u64) (shr_lit _ _ (by decide))) ?_
  refine J.run 1 K13_49 [(32, .int .u8 (IntKind.wrap .u8 ((u64F i.gK) / 1))), (26, .slice ra7 ((((((((([i.gOp % 256, i.gA % 256, i.gB % 256, i.gC % 256]) ++ [((u64F i.gK) / 72057594037927936) % 256]) ++ [((u64F i.gK) / 281474976710656) % 256]) ++ [((u64F i.gK) / 1099511627776) % 256]) ++ [((u64F i.gK) / 4294967296) % 256]) ++ [((u64F i.gK) / 16777216) % 256]) ++ [((u64F i.gK) / 65536) % 256]) ++ [((u64F i.gK) / 256) % 256]).length) rc7), (5, iv 0), (1, pv b1)] w17 (by kernel_rfl) ?_
  refine J.head (.int .u8 (((u64F i.gK) / 1) % 256)) (congrArg (Value.int .u8) (wrapB _)) ?_
  refine J.newSlice S25 33 1 [.int .u8 (((u64F i.gK) / 1) % 256)] 5 (by kernel_rfl) ?_
  intro b10 w18 S26
  refine J.append (enc1 (Value.int .u8)) S26 1 (((((((([i.gOp % 256, i.gA % 256, i.gB % 256, i.gC % 256]) ++ [((u64F i.gK) / 72057594037927936) % 256]) ++ [((u64F i.gK) / 281474976710656) % 256]) ++ [((u64F i.gK) / 1099511627776) % 256]) ++ [((u64F i.gK) / 4294967296) % 256]) ++ [((u64F i.gK) / 16777216) % 256]) ++ [((u64F i.gK) / 65536) % 256]) ++ [((u64F i.gK) / 256) % 256]) (((u64F i.gK) / 1) % 256) 34 40 (.int .u8 0) 1 ⟨b10, 0, none⟩ 1 rfl (by kernel_rfl) (by kernel_rfl) (by kernel_rfl) (by kernel_rfl) (by decide) (box_cells (S26.nth 0 rfl)) (by kernel_rfl) (by kernel_rfl) (⟨by (try simp only [List.length_append, List.length_cons, List.length_nil]); omega, by (try simp only [List.length_append, List.length_cons, List.length_nil]); omega⟩) ?_
  intro ra8 rc8 w19 S27
  replace S27 : Sep w [box b10 [.int .u8 (((u64F i.gK) / 1) % 256)] 5, rowOf (enc1 (Value.int .u8)) ra8 rc8 5 1 ((((((((([i.gOp % 256, i.gA % 256, i.gB % 256, i.gC % 256]) ++ [((u64F i.gK) / 72057594037927936) % 256]) ++ [((u64F i.gK) / 281474976710656) % 256]) ++ [((u64F i.gK) / 1099511627776) % 256]) ++ [((u64F i.gK) / 4294967296) % 256]) ++ [((u64F i.gK) / 16777216) % 256]) ++ [((u64F i.gK) / 65536) % 256]) ++ [((u64F i.gK) / 256) % 256]) ++ [((u64F i.gK) / 1) % 256]), box b1 (insC i) 44] w19 := S27
  have S28 : Sep w [rowOf (enc1 (Value.int .u8)) ra8 rc8 5 1 ((((((((([i.gOp % 256, i.gA % 256, i.gB % 256, i.gC % 256]) ++ [((u64F i.gK) / 72057594037927936) % 256]) ++ [((u64F i.gK) / 281474976710656) % 256]) ++ [((u64F i.gK) / 1099511627776) % 256]) ++ [((u64F i.gK) / 4294967296) % 256]) ++ [((u64F i.gK) / 16777216) % 256]) ++ [((u64F i.gK) / 65536) % 256]) ++ [((u64F i.gK) / 256) % 256]) ++ [((u64F i.gK) / 1) % 256]), box b1 (insC i) 44] w19 := S27.erase 0
  clear S27
  refine J.run 9 K13_50 [(5, iv (-8)), (4, .slice ra8 (((((((((([i.gOp % 256, i.gA % 256, i.gB % 256, i.gC % 256]) ++ [((u64F i.gK) / 72057594037927936) % 256]) ++ [((u64F i.gK) / 281474976710656) % 256]) ++ [((u64F i.gK) / 1099511627776) % 256]) ++ [((u64F i.gK) / 4294967296) % 256]) ++ [((u64F i.gK) / 16777216) % 256]) ++ [((u64F i.gK) / 65536) % 256]) ++ [((u64F i.gK) / 256) % 256]) ++ [((u64F i.gK) / 1) % 256]).length) rc8), (1, pv b1)] w19 (by kernel_rfl) ?_
  refine J.run 14 K13_51 [(3, iv 0), (2, .slice ra8 (((((((((([i.gOp % 256, i.gA % 256, i.gB % 256, i.gC % 256]) ++ [((u64F i.gK) / 72057594037927936) % 256]) ++ [((u64F i.gK) / 281474976710656) % 256]) ++ [((u64F i.gK) / 1099511627776) % 256]) ++ [((u64F i.gK) / 4294967296) % 256]) ++ [((u64F i.gK) / 16777216) % 256]) ++ [((u64F i.gK) / 65536) % 256]) ++ [((u64F i.gK) / 256) % 256]) ++ [((u64F i.gK) / 1) % 256]).length) rc8)] w19 (by kernel_rfl) ?_
  refine J.ret Tryz.f13 [.slice ra8 (((((((((([i.gOp % 256, i.gA % 256, i.gB % 256, i.gC % 256]) ++ [((u64F i.gK) / 72057594037927936) % 256]) ++ [((u64F i.gK) / 281474976710656) % 256]) ++ [((u64F i.gK) / 1099511627776) % 256]) ++ [((u64F i.gK) / 4294967296) % 256]) ++ [((u64F i.gK) / 16777216) % 256]) ++ [((u64F i.gK) / 65536) % 256]) ++ [((u64F i.gK) / 256) % 256]) ++ [((u64F i.gK) / 1) % 256]).length) rc8, iv 0] Tryz.func13 ⟨by kernel_rfl, by kernel_rfl, trivial⟩ ?_
  refine hR _ _ ?_
  obtain ⟨e1, e2⟩ := encX_yes (i := i) fk1
  exact ⟨_, _, by rw [e1, e2]; rfl, by rw [e1]; exact S28.pick 0 rfl⟩
 ·skip
  refine J.head (.bool true) (congrArg Value.bool (by rw [fk1]; rfl)) ?_
  refine J.run 6 K13_52 [(3, iv 1), (2, .slice none 0 0)] w2 (by kernel_rfl) ?_
  refine J.ret Tryz.f13 [.slice none 0 0, iv 1] Tryz.func13 ⟨by kernel_rfl, by kernel_rfl, trivial⟩ ?_
  refine hR _ _ ?_
  obtain ⟨e1, e2⟩ := encX_no (i := i) fk1
  exact ⟨none, 0, by rw [e1, e2]; rfl, by rw [e1]; exact S2.nil.nilRow 5 1⟩

end Go.Proofs.YthfpejhonhaggaaGreatDoor

