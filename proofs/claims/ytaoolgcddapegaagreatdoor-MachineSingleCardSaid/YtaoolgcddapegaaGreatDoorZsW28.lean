/- Walks of functions of this seat, printed by a program over the engine. Conditions: as each theorem says. -/
import Derived.Test.YtaoolgcddapegaaGreatDoorZsW18
namespace Go.Proofs.YtaoolgcddapegaaGreatDoor
open Go.Eng Go.RowKit
set_option linter.unusedSimpArgs false
set_option linter.unusedVariables false
set_option maxRecDepth 20000
set_option maxHeartbeats 20000000
theorem hb18 : HasBody Tryz.prog 18 := fun _ _ => by kernel_rfl

theorem encode_any (i : Ins) (w : World) (hi : insQ w i) : Ret Tryz.prog 18 #[.agg (insA i)] w (fun v w' => ∃ a cap, v = .tuple #[.slice a (encX i).length cap, iv (encE i)] ∧ Sep w [rowOf (enc1 (Value.int .u8)) a cap 5 1 (encX i)] w') := by
 refine Ret.st (N := 36) Tryz.func18 fun R hR S0 => ?_
 obtain ⟨q1, q2, q3, q4, q5, _⟩ := id hi
 have hu : 0 ≤ u64F i.gK ∧ u64F i.gK < 18446744073709551616 := by unfold u64F; omega
 refine J.nw 2 [] [] [] S0 1 (insC i) 48 fun b1 w1 S1 => ?_
 refine J.lb 6 [] [] [] S1 0 rfl 6 (.agg (insA i)) ?_
 refine J.c0 0 [] [] [] S1 7 hb49 (formed_any i _ (insQ_sep hi S1)) fun w2 S2 => ?_
 refine J.bn 2 [] [] [] 8 (formB i) (fun fk1 => ?_) fun fk1 => ?_
 ·skip
  refine J.lb 5 [false] [] [] S2 0 rfl 10 (iv i.gOp) ?_
  refine J.h 1 [] [] [] 11 (.int .u8 (IntKind.wrap .u8 i.gOp)) (.int .u8 (i.gOp % 256)) (congrArg (Value.int .u8) (wrapB _)) ?_
  refine J.lb 1 [] [] [] S2 0 rfl 13 (iv i.gA) ?_
  refine J.h 1 [] [] [] 14 (.int .u8 (IntKind.wrap .u8 i.gA)) (.int .u8 (i.gA % 256)) (congrArg (Value.int .u8) (wrapB _)) ?_
  refine J.lb 1 [] [] [] S2 0 rfl 16 (iv i.gB) ?_
  refine J.h 1 [] [] [] 17 (.int .u8 (IntKind.wrap .u8 i.gB)) (.int .u8 (i.gB % 256)) (congrArg (Value.int .u8) (wrapB _)) ?_
  refine J.lb 1 [] [] [] S2 0 rfl 19 (iv i.gC) ?_
  refine J.h 1 [] [] [] 20 (.int .u8 (IntKind.wrap .u8 i.gC)) (.int .u8 (i.gC % 256)) (congrArg (Value.int .u8) (wrapB _)) ?_
  refine J.newSlice S2 21 4 [.int .u8 (i.gOp % 256), .int .u8 (i.gA % 256), .int .u8 (i.gB % 256), .int .u8 (i.gC % 256)] 5 (by kernel_rfl) ?_
  intro b2 w3 S3
  refine J.lb 22 [true] [(26, .slice (some ⟨b2, 0, none⟩) 4 4), (5, iv 56)] [] S3 1 rfl 28 (iv i.gK) ?_
  refine J.h 1 [] [] [] 29 (.int .u64 (IntKind.wrap .u64 i.gK)) (.int .u64 (u64F i.gK)) (congrArg (Value.int .u64) (wrapU _)) ?_
  refine J.h 2 [] [] [] 31 (.int .u64 (Int.fdiv (u64F i.gK) (2 ^ 56))) (.int .u64 ((u64F i.gK) / 72057594037927936)) (congrArg (Value.int .u64) (shr_lit _ _ (by decide))) ?_
  refine J.h 1 [] [] [] 32 (.int .u8 (IntKind.wrap .u8 ((u64F i.gK) / 72057594037927936))) (.int .u8 (((u64F i.gK) / 72057594037927936) % 256)) (congrArg (Value.int .u8) (wrapB _)) ?_
  refine J.newSlice S3 33 1 [.int .u8 (((u64F i.gK) / 72057594037927936) % 256)] 5 (by kernel_rfl) ?_
  intro b3 w4 S4
  have S5 : Sep w [box b3 [.int .u8 (((u64F i.gK) / 72057594037927936) % 256)] 5, rowOf (enc1 (Value.int .u8)) (some ⟨b2, 0, none⟩) 4 5 1 ([i.gOp % 256, i.gA % 256, i.gB % 256, i.gC % 256]), box b1 (insC i) 48] w4 := box_row (enc1 (Value.int .u8)) S4 1 [i.gOp % 256, i.gA % 256, i.gB % 256, i.gC % 256] 1 rfl rfl rfl (by simp [maxLen]) (.inr trivial)
  refine J.append (enc1 (Value.int .u8)) S5 1 ([i.gOp % 256, i.gA % 256, i.gB % 256, i.gC % 256]) (((u64F i.gK) / 72057594037927936) % 256) 34 52 (.int .u8 0) 1 ⟨b3, 0, none⟩ 1 rfl (by kernel_rfl) (by kernel_rfl) (by kernel_rfl) (by kernel_rfl) (by decide) (box_cells (S5.nth 0 rfl)) (by kernel_rfl) (by kernel_rfl) (⟨by (try simp only [List.length_append, List.length_cons, List.length_nil]); omega, by (try simp only [List.length_append, List.length_cons, List.length_nil]); omega⟩) ?_
  intro ra1 rc1 w5 S6
  replace S6 : Sep w [box b3 [.int .u8 (((u64F i.gK) / 72057594037927936) % 256)] 5, rowOf (enc1 (Value.int .u8)) ra1 rc1 5 1 (([i.gOp % 256, i.gA % 256, i.gB % 256, i.gC % 256]) ++ [((u64F i.gK) / 72057594037927936) % 256]), box b1 (insC i) 48] w5 := S6
  refine J.lb 22 [true] [(26, .slice ra1 ((([i.gOp % 256, i.gA % 256, i.gB % 256, i.gC % 256]) ++ [((u64F i.gK) / 72057594037927936) % 256]).length) rc1), (5, iv 48)] [] (S6.erase 0) 1 rfl 28 (iv i.gK) ?_
  refine J.h 1 [] [] [29] 29 (.int .u64 (IntKind.wrap .u64 i.gK)) (.int .u64 (u64F i.gK)) (congrArg (Value.int .u64) (wrapU _)) ?_
  refine J.h 2 [] [] [31] 31 (.int .u64 (Int.fdiv (u64F i.gK) (2 ^ 48))) (.int .u64 ((u64F i.gK) / 281474976710656)) (congrArg (Value.int .u64) (shr_lit _ _ (by decide))) ?_
  refine J.h 1 [] [] [32] 32 (.int .u8 (IntKind.wrap .u8 ((u64F i.gK) / 281474976710656))) (.int .u8 (((u64F i.gK) / 281474976710656) % 256)) (congrArg (Value.int .u8) (wrapB _)) ?_
  refine J.newSlice (S6.erase 0) 33 1 [.int .u8 (((u64F i.gK) / 281474976710656) % 256)] 5 (by kernel_rfl) ?_
  intro b4 w6 S7
  refine J.append (enc1 (Value.int .u8)) S7 1 (([i.gOp % 256, i.gA % 256, i.gB % 256, i.gC % 256]) ++ [((u64F i.gK) / 72057594037927936) % 256]) (((u64F i.gK) / 281474976710656) % 256) 34 52 (.int .u8 0) 1 ⟨b4, 0, none⟩ 1 rfl (by kernel_rfl) (by kernel_rfl) (by kernel_rfl) (by kernel_rfl) (by decide) (box_cells (S7.nth 0 rfl)) (by kernel_rfl) (by kernel_rfl) (⟨by (try simp only [List.length_append, List.length_cons, List.length_nil]); omega, by (try simp only [List.length_append, List.length_cons, List.length_nil]); omega⟩) ?_
  intro ra2 rc2 w7 S8
  replace S8 : Sep w [box b4 [.int .u8 (((u64F i.gK) / 281474976710656) % 256)] 5, rowOf (enc1 (Value.int .u8)) ra2 rc2 5 1 ((([i.gOp % 256, i.gA % 256, i.gB % 256, i.gC % 256]) ++ [((u64F i.gK) / 72057594037927936) % 256]) ++ [((u64F i.gK) / 281474976710656) % 256]), box b1 (insC i) 48] w7 := S8
  refine J.lb 22 [true] [(26, .slice ra2 (((([i.gOp % 256, i.gA % 256, i.gB % 256, i.gC % 256]) ++ [((u64F i.gK) / 72057594037927936) % 256]) ++ [((u64F i.gK) / 281474976710656) % 256]).length) rc2), (5, iv 40)] [] (S8.erase 0) 1 rfl 28 (iv i.gK) ?_
  refine J.h 1 [] [] [29] 29 (.int .u64 (IntKind.wrap .u64 i.gK)) (.int .u64 (u64F i.gK)) (congrArg (Value.int .u64) (wrapU _)) ?_
  refine J.h 2 [] [] [31] 31 (.int .u64 (Int.fdiv (u64F i.gK) (2 ^ 40))) (.int .u64 ((u64F i.gK) / 1099511627776)) (congrArg (Value.int .u64) (shr_lit _ _ (by decide))) ?_
  refine J.h 1 [] [] [32] 32 (.int .u8 (IntKind.wrap .u8 ((u64F i.gK) / 1099511627776))) (.int .u8 (((u64F i.gK) / 1099511627776) % 256)) (congrArg (Value.int .u8) (wrapB _)) ?_
  refine J.newSlice (S8.erase 0) 33 1 [.int .u8 (((u64F i.gK) / 1099511627776) % 256)] 5 (by kernel_rfl) ?_
  intro b5 w8 S9
  refine J.append (enc1 (Value.int .u8)) S9 1 ((([i.gOp % 256, i.gA % 256, i.gB % 256, i.gC % 256]) ++ [((u64F i.gK) / 72057594037927936) % 256]) ++ [((u64F i.gK) / 281474976710656) % 256]) (((u64F i.gK) / 1099511627776) % 256) 34 52 (.int .u8 0) 1 ⟨b5, 0, none⟩ 1 rfl (by kernel_rfl) (by kernel_rfl) (by kernel_rfl) (by kernel_rfl) (by decide) (box_cells (S9.nth 0 rfl)) (by kernel_rfl) (by kernel_rfl) (⟨by (try simp only [List.length_append, List.length_cons, List.length_nil]); omega, by (try simp only [List.length_append, List.length_cons, List.length_nil]); omega⟩) ?_
  intro ra3 rc3 w9 S10
  replace S10 : Sep w [box b5 [.int .u8 (((u64F i.gK) / 1099511627776) % 256)] 5, rowOf (enc1 (Value.int .u8)) ra3 rc3 5 1 (((([i.gOp % 256, i.gA % 256, i.gB % 256, i.gC % 256]) ++ [((u64F i.gK) / 72057594037927936) % 256]) ++ [((u64F i.gK) / 281474976710656) % 256]) ++ [((u64F i.gK) / 1099511627776) % 256]), box b1 (insC i) 48] w9 := S10
  refine J.lb 22 [true] [(26, .slice ra3 ((((([i.gOp % 256, i.gA % 256, i.gB % 256, i.gC % 256]) ++ [((u64F i.gK) / 72057594037927936) % 256]) ++ [((u64F i.gK) / 281474976710656) % 256]) ++ [((u64F i.gK) / 1099511627776) % 256]).length) rc3), (5, iv 32)] [] (S10.erase 0) 1 rfl 28 (iv i.gK) ?_
  refine J.h 1 [] [] [29] 29 (.int .u64 (IntKind.wrap .u64 i.gK)) (.int .u64 (u64F i.gK)) (congrArg (Value.int .u64) (wrapU _)) ?_
  refine J.h 2 [] [] [31] 31 (.int .u64 (Int.fdiv (u64F i.gK) (2 ^ 32))) (.int .u64 ((u64F i.gK) / 4294967296)) (congrArg (Value.int .u64) (shr_lit _ _ (by decide))) ?_
  refine J.h 1 [] [] [32] 32 (.int .u8 (IntKind.wrap .u8 ((u64F i.gK) / 4294967296))) (.int .u8 (((u64F i.gK) / 4294967296) % 256)) (congrArg (Value.int .u8) (wrapB _)) ?_
  refine J.newSlice (S10.erase 0) 33 1 [.int .u8 (((u64F i.gK) / 4294967296) % 256)] 5 (by kernel_rfl) ?_
  intro b6 w10 S11
  refine J.append (enc1 (Value.int .u8)) S11 1 (((([i.gOp % 256, i.gA % 256, i.gB % 256, i.gC % 256]) ++ [((u64F i.gK) / 72057594037927936) % 256]) ++ [((u64F i.gK) / 281474976710656) % 256]) ++ [((u64F i.gK) / 1099511627776) % 256]) (((u64F i.gK) / 4294967296) % 256) 34 52 (.int .u8 0) 1 ⟨b6, 0, none⟩ 1 rfl (by kernel_rfl) (by kernel_rfl) (by kernel_rfl) (by kernel_rfl) (by decide) (box_cells (S11.nth 0 rfl)) (by kernel_rfl) (by kernel_rfl) (⟨by (try simp only [List.length_append, List.length_cons, List.length_nil]); omega, by (try simp only [List.length_append, List.length_cons, List.length_nil]); omega⟩) ?_
  intro ra4 rc4 w11 S12
  replace S12 : Sep w [box b6 [.int .u8 (((u64F i.gK) / 4294967296) % 256)] 5, rowOf (enc1 (Value.int .u8)) ra4 rc4 5 1 ((((([i.gOp % 256, i.gA % 256, i.gB % 256, i.gC % 256]) ++ [((u64F i.gK) / 72057594037927936) % 256]) ++ [((u64F i.gK) / 281474976710656) % 256]) ++ [((u64F i.gK) / 1099511627776) % 256]) ++ [((u64F i.gK) / 4294967296) % 256]), box b1 (insC i) 48] w11 := S12
  refine J.lb 22 [true] [(26, .slice ra4 (((((([i.gOp % 256, i.gA % 256, i.gB % 256, i.gC % 256]) ++ [((u64F i.gK) / 72057594037927936) % 256]) ++ [((u64F i.gK) / 281474976710656) % 256]) ++ [((u64F i.gK) / 1099511627776) % 256]) ++ [((u64F i.gK) / 4294967296) % 256]).length) rc4), (5, iv 24)] [] (S12.erase 0) 1 rfl 28 (iv i.gK) ?_
  refine J.h 1 [] [] [29] 29 (.int .u64 (IntKind.wrap .u64 i.gK)) (.int .u64 (u64F i.gK)) (congrArg (Value.int .u64) (wrapU _)) ?_
  refine J.h 2 [] [] [31] 31 (.int .u64 (Int.fdiv (u64F i.gK) (2 ^ 24))) (.int .u64 ((u64F i.gK) / 16777216)) (congrArg (Value.int .u64) (shr_lit _ _ (by decide))) ?_
  refine J.h 1 [] [] [32] 32 (.int .u8 (IntKind.wrap .u8 ((u64F i.gK) / 16777216))) (.int .u8 (((u64F i.gK) / 16777216) % 256)) (congrArg (Value.int .u8) (wrapB _)) ?_
  refine J.newSlice (S12.erase 0) 33 1 [.int .u8 (((u64F i.gK) / 16777216) % 256)] 5 (by kernel_rfl) ?_
  intro b7 w12 S13
  refine J.append (enc1 (Value.int .u8)) S13 1 ((((([i.gOp % 256, i.gA % 256, i.gB % 256, i.gC % 256]) ++ [((u64F i.gK) / 72057594037927936) % 256]) ++ [((u64F i.gK) / 281474976710656) % 256]) ++ [((u64F i.gK) / 1099511627776) % 256]) ++ [((u64F i.gK) / 4294967296) % 256]) (((u64F i.gK) / 16777216) % 256) 34 52 (.int .u8 0) 1 ⟨b7, 0, none⟩ 1 rfl (by kernel_rfl) (by kernel_rfl) (by kernel_rfl) (by kernel_rfl) (by decide) (box_cells (S13.nth 0 rfl)) (by kernel_rfl) (by kernel_rfl) (⟨by (try simp only [List.length_append, List.length_cons, List.length_nil]); omega, by (try simp only [List.length_append, List.length_cons, List.length_nil]); omega⟩) ?_
  intro ra5 rc5 w13 S14
  replace S14 : Sep w [box b7 [.int .u8 (((u64F i.gK) / 16777216) % 256)] 5, rowOf (enc1 (Value.int .u8)) ra5 rc5 5 1 (((((([i.gOp % 256, i.gA % 256, i.gB % 256, i.gC % 256]) ++ [((u64F i.gK) / 72057594037927936) % 256]) ++ [((u64F i.gK) / 281474976710656) % 256]) ++ [((u64F i.gK) / 1099511627776) % 256]) ++ [((u64F i.gK) / 4294967296) % 256]) ++ [((u64F i.gK) / 16777216) % 256]), box b1 (insC i) 48] w13 := S14
  refine J.lb 22 [true] [(26, .slice ra5 ((((((([i.gOp % 256, i.gA % 256, i.gB % 256, i.gC % 256]) ++ [((u64F i.gK) / 72057594037927936) % 256]) ++ [((u64F i.gK) / 281474976710656) % 256]) ++ [((u64F i.gK) / 1099511627776) % 256]) ++ [((u64F i.gK) / 4294967296) % 256]) ++ [((u64F i.gK) / 16777216) % 256]).length) rc5), (5, iv 16)] [] (S14.erase 0) 1 rfl 28 (iv i.gK) ?_
  refine J.h 1 [] [] [29] 29 (.int .u64 (IntKind.wrap .u64 i.gK)) (.int .u64 (u64F i.gK)) (congrArg (Value.int .u64) (wrapU _)) ?_
  refine J.h 2 [] [] [31] 31 (.int .u64 (Int.fdiv (u64F i.gK) (2 ^ 16))) (.int .u64 ((u64F i.gK) / 65536)) (congrArg (Value.int .u64) (shr_lit _ _ (by decide))) ?_
  refine J.h 1 [] [] [32] 32 (.int .u8 (IntKind.wrap .u8 ((u64F i.gK) / 65536))) (.int .u8 (((u64F i.gK) / 65536) % 256)) (congrArg (Value.int .u8) (wrapB _)) ?_
  refine J.newSlice (S14.erase 0) 33 1 [.int .u8 (((u64F i.gK) / 65536) % 256)] 5 (by kernel_rfl) ?_
  intro b8 w14 S15
  refine J.append (enc1 (Value.int .u8)) S15 1 (((((([i.gOp % 256, i.gA % 256, i.gB % 256, i.gC % 256]) ++ [((u64F i.gK) / 72057594037927936) % 256]) ++ [((u64F i.gK) / 281474976710656) % 256]) ++ [((u64F i.gK) / 1099511627776) % 256]) ++ [((u64F i.gK) / 4294967296) % 256]) ++ [((u64F i.gK) / 16777216) % 256]) (((u64F i.gK) / 65536) % 256) 34 52 (.int .u8 0) 1 ⟨b8, 0, none⟩ 1 rfl (by kernel_rfl) (by kernel_rfl) (by kernel_rfl) (by kernel_rfl) (by decide) (box_cells (S15.nth 0 rfl)) (by kernel_rfl) (by kernel_rfl) (⟨by (try simp only [List.length_append, List.length_cons, List.length_nil]); omega, by (try simp only [List.length_append, List.length_cons, List.length_nil]); omega⟩) ?_
  intro ra6 rc6 w15 S16
  replace S16 : Sep w [box b8 [.int .u8 (((u64F i.gK) / 65536) % 256)] 5, rowOf (enc1 (Value.int .u8)) ra6 rc6 5 1 ((((((([i.gOp % 256, i.gA % 256, i.gB % 256, i.gC % 256]) ++ [((u64F i.gK) / 72057594037927936) % 256]) ++ [((u64F i.gK) / 281474976710656) % 256]) ++ [((u64F i.gK) / 1099511627776) % 256]) ++ [((u64F i.gK) / 4294967296) % 256]) ++ [((u64F i.gK) / 16777216) % 256]) ++ [((u64F i.gK) / 65536) % 256]), box b1 (insC i) 48] w15 := S16
  refine J.lb 22 [true] [(26, .slice ra6 (((((((([i.gOp % 256, i.gA % 256, i.gB % 256, i.gC % 256]) ++ [((u64F i.gK) / 72057594037927936) % 256]) ++ [((u64F i.gK) / 281474976710656) % 256]) ++ [((u64F i.gK) / 1099511627776) % 256]) ++ [((u64F i.gK) / 4294967296) % 256]) ++ [((u64F i.gK) / 16777216) % 256]) ++ [((u64F i.gK) / 65536) % 256]).length) rc6), (5, iv 8)] [] (S16.erase 0) 1 rfl 28 (iv i.gK) ?_
  refine J.h 1 [] [] [29] 29 (.int .u64 (IntKind.wrap .u64 i.gK)) (.int .u64 (u64F i.gK)) (congrArg (Value.int .u64) (wrapU _)) ?_
  refine J.h 2 [] [] [31] 31 (.int .u64 (Int.fdiv (u64F i.gK) (2 ^ 8))) (.int .u64 ((u64F i.gK) / 256)) (congrArg (Value.int .u64) (shr_lit _ _ (by decide))) ?_
  refine J.h 1 [] [] [32] 32 (.int .u8 (IntKind.wrap .u8 ((u64F i.gK) / 256))) (.int .u8 (((u64F i.gK) / 256) % 256)) (congrArg (Value.int .u8) (wrapB _)) ?_
  refine J.newSlice (S16.erase 0) 33 1 [.int .u8 (((u64F i.gK) / 256) % 256)] 5 (by kernel_rfl) ?_
  intro b9 w16 S17
  refine J.append (enc1 (Value.int .u8)) S17 1 ((((((([i.gOp % 256, i.gA % 256, i.gB % 256, i.gC % 256]) ++ [((u64F i.gK) / 72057594037927936) % 256]) ++ [((u64F i.gK) / 281474976710656) % 256]) ++ [((u64F i.gK) / 1099511627776) % 256]) ++ [((u64F i.gK) / 4294967296) % 256]) ++ [((u64F i.gK) / 16777216) % 256]) ++ [((u64F i.gK) / 65536) % 256]) (((u64F i.gK) / 256) % 256) 34 52 (.int .u8 0) 1 ⟨b9, 0, none⟩ 1 rfl (by kernel_rfl) (by kernel_rfl) (by kernel_rfl) (by kernel_rfl) (by decide) (box_cells (S17.nth 0 rfl)) (by kernel_rfl) (by kernel_rfl) (⟨by (try simp only [List.length_append, List.length_cons, List.length_nil]); omega, by (try simp only [List.length_append, List.length_cons, List.length_nil]); omega⟩) ?_
  intro ra7 rc7 w17 S18
  replace S18 : Sep w [box b9 [.int .u8 (((u64F i.gK) / 256) % 256)] 5, rowOf (enc1 (Value.int .u8)) ra7 rc7 5 1 (((((((([i.gOp % 256, i.gA % 256, i.gB % 256, i.gC % 256]) ++ [((u64F i.gK) / 72057594037927936) % 256]) ++ [((u64F i.gK) / 281474976710656) % 256]) ++ [((u64F i.gK) / 1099511627776) % 256]) ++ [((u64F i.gK) / 4294967296) % 256]) ++ [((u64F i.gK) / 16777216) % 256]) ++ [((u64F i.gK) / 65536) % 256]) ++ [((u64F i.gK) / 256) % 256]), box b1 (insC i) 48] w17 := S18
  refine J.lb 22 [true] [(26, .slice ra7 ((((((((([i.gOp % 256, i.gA % 256, i.gB % 256, i.gC % 256]) ++ [((u64F i.gK) / 72057594037927936) % 256]) ++ [((u64F i.gK) / 281474976710656) % 256]) ++ [((u64F i.gK) / 1099511627776) % 256]) ++ [((u64F i.gK) / 4294967296) % 256]) ++ [((u64F i.gK) / 16777216) % 256]) ++ [((u64F i.gK) / 65536) % 256]) ++ [((u64F i.gK) / 256) % 256]).length) rc7), (5, iv 0)] [] (S18.erase 0) 1 rfl 28 (iv i.gK) ?_
  refine J.h 1 [] [] [29] 29 (.int .u64 (IntKind.wrap .u64 i.gK)) (.int .u64 (u64F i.gK)) (congrArg (Value.int .u64) (wrapU _)) ?_
  refine J.h 2 [] [] [31] 31 (.int .u64 (Int.fdiv (u64F i.gK) (2 ^ 0))) (.int .u64 ((u64F i.gK) / 1)) (congrArg (Value.int .u64) (shr_lit _ _ (by decide))) ?_
  refine J.h 1 [] [] [32] 32 (.int .u8 (IntKind.wrap .u8 ((u64F i.gK) / 1))) (.int .u8 (((u64F i.gK) / 1) % 256)) (congrArg (Value.int .u8) (wrapB _)) ?_
  refine J.newSlice (S18.erase 0) 33 1 [.int .u8 (((u64F i.gK) / 1) % 256)] 5 (by kernel_rfl) ?_
  intro b10 w18 S19
  refine J.append (enc1 (Value.int .u8)) S19 1 (((((((([i.gOp % 256, i.gA % 256, i.gB % 256, i.gC % 256]) ++ [((u64F i.gK) / 72057594037927936) % 256]) ++ [((u64F i.gK) / 281474976710656) % 256]) ++ [((u64F i.gK) / 1099511627776) % 256]) ++ [((u64F i.gK) / 4294967296) % 256]) ++ [((u64F i.gK) / 16777216) % 256]) ++ [((u64F i.gK) / 65536) % 256]) ++ [((u64F i.gK) / 256) % 256]) (((u64F i.gK) / 1) % 256) 34 52 (.int .u8 0) 1 ⟨b10, 0, none⟩ 1 rfl (by kernel_rfl) (by kernel_rfl) (by kernel_rfl) (by kernel_rfl) (by decide) (box_cells (S19.nth 0 rfl)) (by kernel_rfl) (by kernel_rfl) (⟨by (try simp only [List.length_append, List.length_cons, List.length_nil]); omega, by (try simp only [List.length_append, List.length_cons, List.length_nil]); omega⟩) ?_
  intro ra8 rc8 w19 S20
  replace S20 : Sep w [box b10 [.int .u8 (((u64F i.gK) / 1) % 256)] 5, rowOf (enc1 (Value.int .u8)) ra8 rc8 5 1 ((((((((([i.gOp % 256, i.gA % 256, i.gB % 256, i.gC % 256]) ++ [((u64F i.gK) / 72057594037927936) % 256]) ++ [((u64F i.gK) / 281474976710656) % 256]) ++ [((u64F i.gK) / 1099511627776) % 256]) ++ [((u64F i.gK) / 4294967296) % 256]) ++ [((u64F i.gK) / 16777216) % 256]) ++ [((u64F i.gK) / 65536) % 256]) ++ [((u64F i.gK) / 256) % 256]) ++ [((u64F i.gK) / 1) % 256]), box b1 (insC i) 48] w19 := S20
  refine J.e 23 [.slice ra8 (((((((((([i.gOp % 256, i.gA % 256, i.gB % 256, i.gC % 256]) ++ [((u64F i.gK) / 72057594037927936) % 256]) ++ [((u64F i.gK) / 281474976710656) % 256]) ++ [((u64F i.gK) / 1099511627776) % 256]) ++ [((u64F i.gK) / 4294967296) % 256]) ++ [((u64F i.gK) / 16777216) % 256]) ++ [((u64F i.gK) / 65536) % 256]) ++ [((u64F i.gK) / 256) % 256]) ++ [((u64F i.gK) / 1) % 256]).length) rc8, iv 0] Tryz.func18 (hR _ _ ?_)
  obtain ⟨e1, e2⟩ := encX_yes (i := i) fk1
  exact ⟨_, _, by rw [e1, e2]; rfl, by rw [e1]; exact (S20.erase 0).pick 0 rfl⟩
 refine J.e 6 [.slice none 0 0, iv 1] Tryz.func18 (hR _ _ ?_)
 obtain ⟨e1, e2⟩ := encX_no (i := i) fk1
 exact ⟨none, 0, by rw [e1, e2]; rfl, by rw [e1]; exact S2.nil.nilRow 5 1⟩

end Go.Proofs.YtaoolgcddapegaaGreatDoor

namespace Go.Proofs.YtaoolgcddapegaaGreatDoor
noncomputable section
open Go.Eng Go.RowKit
set_option linter.unusedSimpArgs false
set_option linter.unusedVariables false
set_option maxRecDepth 20000
set_option maxHeartbeats 20000000
abbrev kvW29_1 : List Value := [.string ByteArray.empty, .string ByteArray.empty, iv 0]
theorem hb21 : HasBody Tryz.prog 21 := fun _ _ => by kernel_rfl
def K21_0 := adv 15 [false] (bodyOf Tryz.f21)
def K21_1 := adv 17 [] (rRest (adv 15 [false] (bodyOf Tryz.f21)))
theorem mtext_any (i : Ins) (w : World) (hi : insQ w i) (hW : TabW w) : Ret Tryz.prog 21 #[.agg (insA i)] w (fun v w' => v = .string (textI i) ∧ Sep w [] w') := by
 refine Ret.st (N := 39) Tryz.func21 fun R hR S0 => ?_
 obtain ⟨q1, q2, q3, q4, q5, _⟩ := id hi
 have hrl_ := rows_len
 refine J.nw 2 [] [] [] S0 1 (insC i) 48 fun b1 w1 S1 => ?_
 refine J.lb 5 [] [] [] S1 0 rfl 7 (.agg (insA i)) ?_
 refine J.c0 0 [] [] [] S1 8 hb49 (formed_any i _ (insQ_sep hi S1)) fun w2 S2 => ?_
 refine J.bn 2 [] [] [] 9 (formB i) (fun fk1 => ?_) fun fk1 => ?_
 ·skip
  have hfp := formB_iff.1 fk1
  have hrs := rows_size (op := i.gOp) (by omega)
  refine J.r 3 [false] [] [] ?_
  have W1 : ∀ (bd5 : Nat) (bd0 : Nat) (w3 : World), Sep w [box bd0 (rowsL.flatMap rwoE) 109, box bd5 (rwoC (rowsL.getD ((i.gOp).toNat) rwo0)) 109, box b1 (insC i) 48] w3 → WA Tryz.prog 21 39 R K21_0 (fun w_ => Sep w [box b1 (insC i) 48] w_) 0 #[true, true, true, true, true, true, true] [(1, pv b1), (3, pv bd5)] w3 := by
   intro bd5 bd0 w3 S3
   refine WA.done (by kernel_rfl) ?_
   refine J.lb 3 [] [] [] S3 1 rfl 16 (.string ((rowsL.getD ((i.gOp).toNat) rwo0).gname)) ?_
   refine J.lb 6 [] [(4, .string ((rowsL.getD ((i.gOp).toNat) rwo0).gname))] [] S3 1 rfl 18 (.string ((rowsL.getD ((i.gOp).toNat) rwo0).gfields)) ?_
   refine J.strBytes S3 19 9 52 5 ((rowsL.getD ((i.gOp).toNat) rwo0).gfields) (by kernel_rfl) (by kernel_rfl) ?_
   intro b2 cq1 w4 S4
   have L21_1 : ∀ (mm_ : Nat) (t : ByteArray) (k : Int) (w5 : World), (0 ≤ k) → (k ≤ ((rowsL.getD i.gOp.toNat rwo0).gfields.size : Int)) → (((t).size : Int) ≤ 7 + 22 * k) → (ls t = ls (rowsL.getD i.gOp.toNat rwo0).gname ++ ((ls (rowsL.getD i.gOp.toNat rwo0).gfields).take (k).toNat).flatMap (partL i)) → Sep w [rows8 b2 ((rowsL.getD ((i.gOp).toNat) rwo0).gfields), box bd0 (rowsL.flatMap rwoE) 109, box bd5 (rwoC (rowsL.getD ((i.gOp).toNat) rwo0)) 109, box b1 (insC i) 48] w5 → (((rowsL.getD i.gOp.toNat rwo0).gfields.size : Int) - k).toNat = mm_ → J Tryz.prog 21 39 R K21_1 [(21, iv k), (20, iv (((rowsL.getD ((i.gOp).toNat) rwo0).gfields).size : Int)), (19, .slice (some ⟨b2, 0, none⟩) (((rowsL.getD ((i.gOp).toNat) rwo0).gfields).size) cq1), (4, .string t), (1, pv b1)] w5 := by
    intro mm1
    induction mm1 using Nat.strongRecOn with
    | _ mm1 ih1 =>
    intro t k w5 h0 h1 hz ht S5 hm1
    refine J.c 5 [] [] [] 22 (k < (((rowsL.getD ((i.gOp).toNat) rwo0).gfields).size : Int)) (fun fk2 => ?_) fun fk2 => ?_
    ·skip
     refine J.r 6 [true] [] [] ?_
     obtain ⟨p1, hp1, hc1⟩ := rows8_at (S5.nth 0 rfl) (k).toNat (by first | omega | (simp; omega))
     have := byteAt_bounds ((rowsL.getD ((i.gOp).toNat) rwo0).gfields) (k).toNat
     refine J.ok (OK.index 23 52 1 (some ⟨b2, 0, none⟩) p1 (((rowsL.getD ((i.gOp).toNat) rwo0).gfields).size) (k).toNat k (p1.add (k).toNat) (by kernel_rfl) (by kernel_rfl) hp1 (by omega) (by first | omega | (simp; omega)) (by rw [Nat.mul_one])) ?_
     refine J.ok (OK.ldCell 24 5 (p1.add (k).toNat) (.int .u8 (byteAt ((rowsL.getD ((i.gOp).toNat) rwo0).gfields) (k).toNat)) (by kernel_rfl) (by kernel_rfl) hc1) ?_
     refine J.r 5 [] [(25, .string t), (6, .int .u8 (byteAt ((rowsL.getD ((i.gOp).toNat) rwo0).gfields) (k).toNat))] [] ?_
     refine J.ok (OK.cat 26 t (⟨#[32]⟩ : ByteArray) (t ++ (⟨#[32]⟩ : ByteArray)) (by kernel_rfl) (by first | (simp only [ByteArray.size_append, lit_size, List.size_toArray, List.length_cons, List.length_nil]; omega)) (rfl)) ?_
     refine J.cn 8 [] [(4, .string (t ++ (⟨#[32]⟩ : ByteArray)))] [] 28 ((byteAt ((rowsL.getD ((i.gOp).toNat) rwo0).gfields) (k).toNat) = 75) (fun fk3 => ?_) fun fk3 => ?_
     ·skip
      refine J.lb 4 [false] [(31, .string (t ++ (⟨#[32]⟩ : ByteArray)))] [] S5 3 rfl 32 (.agg (insA i)) ?_
      refine J.r 1 [] [(33, .int .u8 (byteAt ((rowsL.getD ((i.gOp).toNat) rwo0).gfields) (k).toNat))] [] ?_
      refine J.c0 0 [] [] [] S5 34 hb57 (field_any i (byteAt ((rowsL.getD ((i.gOp).toNat) rwo0).gfields) (k).toNat) _) fun w6 S6 => ?_
      have hfb := fld_bd (i := i) ⟨by omega, by omega, by omega, by omega⟩ (byteAt ((rowsL.getD ((i.gOp).toNat) rwo0).gfields) (k).toNat)
      refine J.c0 0 [] [] [] S6 35 hb56 (itoa_any (fldF i (byteAt ((rowsL.getD ((i.gOp).toNat) rwo0).gfields) (k).toNat)) _ (by omega) (tabW_sep hW S6)) fun w7 S7 => ?_
      have := itoaB_size (n := (fldF i (byteAt ((rowsL.getD ((i.gOp).toNat) rwo0).gfields) (k).toNat))) (by omega)
      refine J.ok (OK.cat 36 (t ++ (⟨#[32]⟩ : ByteArray)) (itoaB (fldF i (byteAt ((rowsL.getD ((i.gOp).toNat) rwo0).gfields) (k).toNat))) ((t ++ (⟨#[32]⟩ : ByteArray)) ++ (itoaB (fldF i (byteAt ((rowsL.getD ((i.gOp).toNat) rwo0).gfields) (k).toNat)))) (by kernel_rfl) (by first | (simp only [ByteArray.size_append, lit_size, List.size_toArray, List.length_cons, List.length_nil]; omega)) (rfl)) ?_
      refine J.wi 5 [] [(4, .string ((t ++ (⟨#[32]⟩ : ByteArray)) ++ (itoaB (fldF i (byteAt ((rowsL.getD ((i.gOp).toNat) rwo0).gfields) (k).toNat)))))] [] 37 (k + 1) ?_
      exact J.t 3 (ih1 _ (show (((rowsL.getD i.gOp.toNat rwo0).gfields.size : Int) - (k + 1)).toNat < mm1 from by omega) ((t ++ (⟨#[32]⟩ : ByteArray)) ++ (itoaB (fldF i (byteAt ((rowsL.getD ((i.gOp).toNat) rwo0).gfields) (k).toNat)))) (k + 1) w7 (by omega) (by omega) (by simp only [ByteArray.size_append, lit_size, List.size_toArray, List.length_cons, List.length_nil]; omega) (text_step h0 (by omega) ht (part_k (by omega))) S7 rfl)
     refine J.r 3 [true] [(29, .string (t ++ (⟨#[32]⟩ : ByteArray)))] [] ?_
     refine J.ok (OK.cat 30 (t ++ (⟨#[32]⟩ : ByteArray)) (⟨#[114]⟩ : ByteArray) ((t ++ (⟨#[32]⟩ : ByteArray)) ++ (⟨#[114]⟩ : ByteArray)) (by kernel_rfl) (by first | (simp only [ByteArray.size_append, lit_size, List.size_toArray, List.length_cons, List.length_nil]; omega)) (rfl)) ?_
     refine J.lb 4 [] [(31, .string ((t ++ (⟨#[32]⟩ : ByteArray)) ++ (⟨#[114]⟩ : ByteArray)))] [4] S5 3 rfl 32 (.agg (insA i)) ?_
     refine J.r 1 [] [(33, .int .u8 (byteAt ((rowsL.getD ((i.gOp).toNat) rwo0).gfields) (k).toNat))] [] ?_
     refine J.c0 0 [] [] [] S5 34 hb57 (field_any i (byteAt ((rowsL.getD ((i.gOp).toNat) rwo0).gfields) (k).toNat) _) fun w8 S8 => ?_
     have hfb := fld_bd (i := i) ⟨by omega, by omega, by omega, by omega⟩ (byteAt ((rowsL.getD ((i.gOp).toNat) rwo0).gfields) (k).toNat)
     refine J.c0 0 [] [] [] S8 35 hb56 (itoa_any (fldF i (byteAt ((rowsL.getD ((i.gOp).toNat) rwo0).gfields) (k).toNat)) _ (by omega) (tabW_sep hW S8)) fun w9 S9 => ?_
     have := itoaB_size (n := (fldF i (byteAt ((rowsL.getD ((i.gOp).toNat) rwo0).gfields) (k).toNat))) (by omega)
     refine J.ok (OK.cat 36 ((t ++ (⟨#[32]⟩ : ByteArray)) ++ (⟨#[114]⟩ : ByteArray)) (itoaB (fldF i (byteAt ((rowsL.getD ((i.gOp).toNat) rwo0).gfields) (k).toNat))) (((t ++ (⟨#[32]⟩ : ByteArray)) ++ (⟨#[114]⟩ : ByteArray)) ++ (itoaB (fldF i (byteAt ((rowsL.getD ((i.gOp).toNat) rwo0).gfields) (k).toNat)))) (by kernel_rfl) (by first | (simp only [ByteArray.size_append, lit_size, List.size_toArray, List.length_cons, List.length_nil]; omega)) (rfl)) ?_
     refine J.wi 5 [] [(4, .string (((t ++ (⟨#[32]⟩ : ByteArray)) ++ (⟨#[114]⟩ : ByteArray)) ++ (itoaB (fldF i (byteAt ((rowsL.getD ((i.gOp).toNat) rwo0).gfields) (k).toNat)))))] [] 37 (k + 1) ?_
     exact J.t 3 (ih1 _ (show (((rowsL.getD i.gOp.toNat rwo0).gfields.size : Int) - (k + 1)).toNat < mm1 from by omega) (((t ++ (⟨#[32]⟩ : ByteArray)) ++ (⟨#[114]⟩ : ByteArray)) ++ (itoaB (fldF i (byteAt ((rowsL.getD ((i.gOp).toNat) rwo0).gfields) (k).toNat)))) (k + 1) w9 (by omega) (by omega) (by simp only [ByteArray.size_append, lit_size, List.size_toArray, List.length_cons, List.length_nil]; omega) (text_step h0 (by omega) ht (part_r (by omega))) S9 rfl)
    refine J.e 7 [.string t] Tryz.func21 (hR _ _ ?_)
    rw [show k.toNat = (rowsL.getD i.gOp.toNat rwo0).gfields.size by omega] at ht
    exact ⟨congrArg Value.string (text_done fk1 ht), S5.nil⟩
   exact J.t 5 (L21_1 _ ((rowsL.getD ((i.gOp).toNat) rwo0).gname) 0 w4 (by omega) (by omega) (by omega) (by simp) S4 rfl)
  have W2 : ∀ (bd5 : Nat) (bd0 : Nat) (w10 : World), Sep w [box bd0 (rowsL.flatMap rwoE) 109, box bd5 kvW29_1 109, box b1 (insC i) 48] w10 → WA Tryz.prog 21 39 R K21_0 (fun w_ => Sep w [box b1 (insC i) 48] w_) 1 #[true, true, true, true, true, true, false] [(1, pv b1), (3, pv bd5), (14, .agg (rwoA (rowsL.getD ((i.gOp).toNat) rwo0)))] w10 := by
   intro bd5 bd0 w10 S10
   refine WA.all [6] (by kernel_rfl) rfl ⟨?_, trivial⟩
   refine WO.set #[true, true, true, true, true, true, true] (by kernel_rfl) ?_
   refine WO.stBox S10 1 109 0 (.agg (rwoA (rowsL.getD ((i.gOp).toNat) rwo0))) (rwoC (rowsL.getD ((i.gOp).toNat) rwo0)) [box bd0 (rowsL.flatMap rwoE) 109, box bd5 (rwoC (rowsL.getD ((i.gOp).toNat) rwo0)) 109, box b1 (insC i) 48] (by kernel_rfl) rfl (by kernel_rfl) (by kernel_rfl) rfl ?_
   intro w11 S11
   refine WB.mk ((S11.erase 1).erase 0) ?_
   refine WA.weaken (env' := [(1, pv b1), (3, pv bd5)]) (by kernel_rfl) ?_
   exact W1 bd5 bd0 w11 S11
  have W3 : ∀ (bd5 : Nat) (bd0 : Nat) (w12 : World), Sep w [box bd0 (rowsL.flatMap rwoE) 109, box bd5 kvW29_1 109, box b1 (insC i) 48] w12 → WA Tryz.prog 21 39 R K21_0 (fun w_ => Sep w [box b1 (insC i) 48] w_) 2 #[true, true, true, true, false, true, false] [(1, pv b1), (3, pv bd5), (13, .pointer (some ⟨bd0, ((i.gOp).toNat) * 3, none⟩))] w12 := by
   intro bd5 bd0 w12 S12
   refine WA.all [4] (by kernel_rfl) rfl ⟨?_, trivial⟩
   refine WO.set #[true, true, true, true, true, true, false] (by kernel_rfl) ?_
   refine WO.ok (OK.ldCells 14 109 ⟨bd0, ((i.gOp).toNat) * 3, none⟩ (rwoC (rowsL.getD ((i.gOp).toNat) rwo0)) (by kernel_rfl) (by kernel_rfl) (by kernel_rfl) (box_rec_at (s := 3) (S12.nth 0 rfl) (fun _ => rfl) (by decide) rwo0 ((i.gOp).toNat) (by first | omega | (simp; omega)))) ?_
   refine WB.mk ((S12.erase 1).erase 0) ?_
   refine WA.weaken (env' := [(1, pv b1), (3, pv bd5), (14, .agg (rwoA (rowsL.getD ((i.gOp).toNat) rwo0)))]) (by kernel_rfl) ?_
   exact W2 bd5 bd0 w12 S12
  have W4 : ∀ (bd0 : Nat) (w13 : World), Sep w [box bd0 (rowsL.flatMap rwoE) 109, box b1 (insC i) 48] w13 → WA Tryz.prog 21 39 R K21_0 (fun w_ => Sep w [box b1 (insC i) 48] w_) 2 #[true, true, true, true, true, false, false] [(1, pv b1), (14, .agg (rwoA (rowsL.getD ((i.gOp).toNat) rwo0)))] w13 := by
   intro bd0 w13 S13
   refine WA.all [5] (by kernel_rfl) rfl ⟨?_, trivial⟩
   refine WO.set #[true, true, true, true, true, true, false] (by kernel_rfl) ?_
   refine WO.new S13 3 kvW29_1 109 (by kernel_rfl) ?_
   intro bd5 w14 S14
   refine WB.mk ((S14.erase 1).erase 0) ?_
   refine WA.weaken (env' := [(1, pv b1), (3, pv bd5), (14, .agg (rwoA (rowsL.getD ((i.gOp).toNat) rwo0)))]) (by kernel_rfl) ?_
   have S15 : Sep w [box bd5 kvW29_1 109, box bd0 (rowsL.flatMap rwoE) 109, box b1 (insC i) 48] w14 := S14.front 0 rfl
   have S16 : Sep w [box bd0 (rowsL.flatMap rwoE) 109, box bd5 kvW29_1 109, box b1 (insC i) 48] w14 := S15.front 1 rfl
   exact W2 bd5 bd0 w14 S16
  have W5 : ∀ (bd0 : Nat) (w15 : World), Sep w [box bd0 (rowsL.flatMap rwoE) 109, box b1 (insC i) 48] w15 → WA Tryz.prog 21 39 R K21_0 (fun w_ => Sep w [box b1 (insC i) 48] w_) 3 #[true, true, true, true, false, false, false] [(1, pv b1), (13, .pointer (some ⟨bd0, ((i.gOp).toNat) * 3, none⟩))] w15 := by
   intro bd0 w15 S17
   refine WA.all [4, 5] (by kernel_rfl) rfl ⟨?_, ?_, trivial⟩
   ·skip
    refine WO.set #[true, true, true, true, true, false, false] (by kernel_rfl) ?_
    refine WO.ok (OK.ldCells 14 109 ⟨bd0, ((i.gOp).toNat) * 3, none⟩ (rwoC (rowsL.getD ((i.gOp).toNat) rwo0)) (by kernel_rfl) (by kernel_rfl) (by kernel_rfl) (box_rec_at (s := 3) (S17.nth 0 rfl) (fun _ => rfl) (by decide) rwo0 ((i.gOp).toNat) (by first | omega | (simp; omega)))) ?_
    refine WB.mk (S17.erase 0) ?_
    refine WA.weaken (env' := [(1, pv b1), (14, .agg (rwoA (rowsL.getD ((i.gOp).toNat) rwo0)))]) (by kernel_rfl) ?_
    exact W4 bd0 w15 S17
   refine WO.set #[true, true, true, true, false, true, false] (by kernel_rfl) ?_
   refine WO.new S17 3 kvW29_1 109 (by kernel_rfl) ?_
   intro bd5 w16 S18
   refine WB.mk ((S18.erase 1).erase 0) ?_
   refine WA.weaken (env' := [(1, pv b1), (3, pv bd5), (13, .pointer (some ⟨bd0, ((i.gOp).toNat) * 3, none⟩))]) (by kernel_rfl) ?_
   have S19 : Sep w [box bd5 kvW29_1 109, box bd0 (rowsL.flatMap rwoE) 109, box b1 (insC i) 48] w16 := S18.front 0 rfl
   have S20 : Sep w [box bd0 (rowsL.flatMap rwoE) 109, box bd5 kvW29_1 109, box b1 (insC i) 48] w16 := S19.front 1 rfl
   exact W3 bd5 bd0 w16 S20
  have W6 : ∀ (bd5 : Nat) (w17 : World), Sep w [box bd5 kvW29_1 109, box b1 (insC i) 48] w17 → WA Tryz.prog 21 39 R K21_0 (fun w_ => Sep w [box b1 (insC i) 48] w_) 4 #[false, true, true, false, false, true, false] [(1, pv b1), (3, pv bd5), (12, iv i.gOp)] w17 := by
   intro bd5 w17 S21
   refine WA.all [0] (by kernel_rfl) rfl ⟨?_, trivial⟩
   refine WO.set #[true, true, true, false, false, true, false] (by kernel_rfl) ?_
   refine WO.callF 10 52 #[] hb52 (by kernel_rfl) (rows_any _) ?_
   rintro _ w18 ⟨bd0, rfl, T1⟩
   have S22 : Sep w [box bd0 (rowsL.flatMap rwoE) 109, box bd5 kvW29_1 109, box b1 (insC i) 48] w18 := S21.trans T1
   clear T1 S21
   refine WB.mk ((S22.erase 1).erase 0) ?_
   refine WA.takeOK 3 #[true, true, true, true, false, true, false] (by kernel_rfl) (by kernel_rfl) (by kernel_rfl) (by kernel_rfl) (fun w_ S_ => OK.index 13 107 3 (some ⟨bd0, 0, none⟩) ⟨bd0, 0, none⟩ 23 (i.gOp).toNat i.gOp ⟨bd0, ((i.gOp).toNat) * 3, none⟩ (by kernel_rfl) (by kernel_rfl) rfl (by omega) (by first | omega | (simp; omega)) (by rw [add_block, Nat.zero_add])) rfl ?_
   refine WA.weaken (env' := [(1, pv b1), (3, pv bd5), (13, .pointer (some ⟨bd0, ((i.gOp).toNat) * 3, none⟩))]) (by kernel_rfl) ?_
   exact W3 bd5 bd0 w18 S22
  have W7 : ∀ (w19 : World), Sep w [box b1 (insC i) 48] w19 → WA Tryz.prog 21 39 R K21_0 (fun w_ => Sep w [box b1 (insC i) 48] w_) 5 #[false, true, true, false, false, false, false] [(1, pv b1), (12, iv i.gOp)] w19 := by
   intro w19 S23
   refine WA.all [0, 5] (by kernel_rfl) rfl ⟨?_, ?_, trivial⟩
   ·skip
    refine WO.set #[true, true, true, false, false, false, false] (by kernel_rfl) ?_
    refine WO.callF 10 52 #[] hb52 (by kernel_rfl) (rows_any _) ?_
    rintro _ w20 ⟨bd0, rfl, T2⟩
    have S24 : Sep w [box bd0 (rowsL.flatMap rwoE) 109, box b1 (insC i) 48] w20 := S23.trans T2
    clear T2 S23
    refine WB.mk (S24.erase 0) ?_
    refine WA.takeOK 3 #[true, true, true, true, false, false, false] (by kernel_rfl) (by kernel_rfl) (by kernel_rfl) (by kernel_rfl) (fun w_ S_ => OK.index 13 107 3 (some ⟨bd0, 0, none⟩) ⟨bd0, 0, none⟩ 23 (i.gOp).toNat i.gOp ⟨bd0, ((i.gOp).toNat) * 3, none⟩ (by kernel_rfl) (by kernel_rfl) rfl (by omega) (by first | omega | (simp; omega)) (by rw [add_block, Nat.zero_add])) rfl ?_
    refine WA.weaken (env' := [(1, pv b1), (13, .pointer (some ⟨bd0, ((i.gOp).toNat) * 3, none⟩))]) (by kernel_rfl) ?_
    exact W5 bd0 w20 S24
   refine WO.set #[false, true, true, false, false, true, false] (by kernel_rfl) ?_
   refine WO.new S23 3 kvW29_1 109 (by kernel_rfl) ?_
   intro bd5 w21 S25
   refine WB.mk (S25.erase 0) ?_
   refine WA.weaken (env' := [(1, pv b1), (3, pv bd5), (12, iv i.gOp)]) (by kernel_rfl) ?_
   exact W6 bd5 w21 S25
  refine J.drawAny (fun w_ => Sep w [box b1 (insC i) 48] w_) S2 7 #[false, false, false, false, false, false, false] Tryz.mixed (by kernel_rfl) (by kernel_rfl) (by kernel_rfl) ?_
  intro w22 S26
  refine WB.mk S26 ?_
  refine WA.take 1 11 (pv b1) #[false, true, false, false, false, false, false] (by kernel_rfl) (by kernel_rfl) (by kernel_rfl) (fun _ _ => by kernel_rfl) (by kernel_rfl) ?_
  refine WA.takeOK 2 #[false, true, true, false, false, false, false] (by kernel_rfl) (by kernel_rfl) (by kernel_rfl) (by kernel_rfl) (fun w_ S_ => OK.ldBox S_ 0 12 3 0 (iv i.gOp) (by kernel_rfl) rfl (by kernel_rfl)) rfl ?_
  refine WA.weaken (env' := [(1, pv b1), (12, iv i.gOp)]) (by kernel_rfl) ?_
  exact W7 w22 S26
 refine J.e 5 [.string ByteArray.empty] Tryz.func21 (hR _ _ ?_)
 exact ⟨congrArg Value.string (textI_no fk1).symm, S2.nil⟩

theorem atM_bd (l : List UInt8) : -9223372036854775808 ≤ (atM l).getD 0 ∧ (atM l).getD 0 ≤ 9223372036854775807 := by
  unfold atM
  split
  · rename_i n h
    have := Lib.atoiAll_bounds h
    simp only [Option.getD_some]; omega
  · simp only [Option.getD_none]; omega
theorem index_rows (W : ByteArray) : -1 ≤ indexF (fun r : Rwo => r.gname.toList == W.toList) rowsL ∧ indexF (fun r : Rwo => r.gname.toList == W.toList) rowsL < 23 ∧
    (indexF (fun r : Rwo => r.gname.toList == W.toList) rowsL < 1 → opW (ls W) = 0) ∧ (1 ≤ indexF (fun r : Rwo => r.gname.toList == W.toList) rowsL → opW (ls W) = indexF (fun r : Rwo => r.gname.toList == W.toList) rowsL) := by
  have hl := rows_len
  by_cases h : 0 ≤ indexF (fun r : Rwo => r.gname.toList == W.toList) rowsL
  · obtain ⟨h1, h2, _⟩ := indexF_at rwo0 h
    generalize indexF (fun r : Rwo => r.gname.toList == W.toList) rowsL = m at h h1 h2
    rw [beq_ls, beq_iff_eq] at h2
    refine ⟨by omega, by omega, fun h3 => ?_, fun h3 => ?_⟩
    · have e : m = 0 := by omega
      subst e
      rw [← h2]; decide +kernel
    · rw [← h2, (rows_at (op := m) (by omega)).1]; exact opW_name (by omega)
  · have ha : rowsL.any (fun r : Rwo => r.gname.toList == W.toList) = false := by
      rw [← indexF_nonneg]; exact decide_eq_false h
    refine ⟨?_, by omega, fun _ => ?_, fun h3 => absurd h3 (by omega)⟩
    · rcases indexF_bounds (fun r : Rwo => r.gname.toList == W.toList) rowsL with h1 | h1 <;> omega
    · refine opN_zero fun j hj h0 e => ?_
      rw [List.any_eq_false] at ha
      have hm : rowsL.getD j rwo0 ∈ rowsL := by rw [List.getD_eq_getElem?_getD, List.getElem?_eq_getElem (by omega)]; exact List.getElem_mem _
      apply ha _ hm
      rw [beq_ls, beq_iff_eq, ← e]
      have := (rows_at (op := (j : Int)) (by omega)).1
      rw [Int.toNat_natCast] at this; rw [this]
theorem goW_step {f : UInt8 → List UInt8 → Option Int} {cs : List UInt8} {ws : List (List UInt8)} {i : Ins} {k : Nat} (hk : k < cs.length) :
    goW f (cs.drop k) (ws.drop (k + 1)) i = match f (cs.getD k 0) (ws.getD (k + 1) []) with
      | none => none
      | some n => goW f (cs.drop (k + 1)) (ws.drop (k + 2)) (setI i ((cs.getD k 0).toNat : Int) n) := by
  rw [List.drop_eq_getElem_cons hk, goW, List.getD_eq_getElem?_getD, List.getElem?_eq_getElem hk, Option.getD_some]
  have e1 : (ws.drop (k + 1)).headD [] = ws.getD (k + 1) [] := by
    rw [List.headD_eq_head?_getD, List.head?_drop, List.getD_eq_getElem?_getD]
  have e2 : (ws.drop (k + 1)).tail = ws.drop (k + 2) := by rw [List.tail_drop]
  rw [e1, e2] <;> rfl
/-- the state of a reader: what the rest of the fields gives -/
def atW (f : UInt8 → List UInt8 → Option Int) (s : ByteArray) (op : Int) (k : Int) (i : Ins) : Prop :=
  readI f (ls s) = goW f ((ls (fieldsF op)).drop k.toNat) ((splitOn 32 (ls s)).drop (k.toNat + 1)) i
theorem atW_start {f : UInt8 → List UInt8 → Option Int} {s : ByteArray} {op : Int} {w0 : ByteArray} (h0 : (piecesB 32 s).getD 0 ByteArray.empty = w0) (h1 : opW (ls w0) = op) (h2 : 1 ≤ op) (h3 : ((piecesB 32 s).length : Int) = 1 + ((fieldsF op).size : Int)) : atW f s op 0 ⟨op, 0, 0, 0, 0⟩ := by
  have hp := pieces_len 32 s
  have hne := splitOn_ne 32 (ls s)
  have e0 : ls w0 = (splitOn 32 (ls s)).headD [] := by
    rw [← h0, piecesB_getD 32 s 0 (List.length_pos_iff.2 hne)]
    cases splitOn 32 (ls s) with
    | nil => rfl
    | cons a b => rfl
  rw [e0] at h1
  unfold atW
  rw [readI_yes (by omega) (by rw [h1]; omega), h1]; simp
theorem readI_not {f : UInt8 → List UInt8 → Option Int} {s : ByteArray} {w0 : ByteArray} (h0 : (piecesB 32 s).getD 0 ByteArray.empty = w0) (h : opW (ls w0) < 1 ∨ ((piecesB 32 s).length : Int) ≠ 1 + ((fieldsF (opW (ls w0))).size : Int)) : readI f (ls s) = none := by
  have hp := pieces_len 32 s
  have hne := splitOn_ne 32 (ls s)
  have e0 : ls w0 = (splitOn 32 (ls s)).headD [] := by
    rw [← h0, piecesB_getD 32 s 0 (List.length_pos_iff.2 hne)]
    cases splitOn 32 (ls s) with
    | nil => rfl
    | cons a b => rfl
  rw [e0] at h
  unfold readI; rw [if_pos (by rcases h with h | h; left; exact h; right; omega)]
theorem atW_none {f : UInt8 → List UInt8 → Option Int} {s w : ByteArray} {op k : Int} {i : Ins} (h : atW f s op k i) (h0 : 0 ≤ k) (hk : k < ((fieldsF op).size : Int)) (hw : w = (piecesB 32 s).getD (k + 1).toNat ByteArray.empty) (hp : ((piecesB 32 s).length : Int) = 1 + ((fieldsF op).size : Int))
    (hf : f ((ls (fieldsF op)).getD k.toNat 0) (ls w) = none) : readI f (ls s) = none := by
  have hl := ls_length (fieldsF op); have hpl := pieces_len 32 s
  rw [hw, piecesB_getD 32 s _ (by omega), show (k + 1).toNat = k.toNat + 1 by omega] at hf
  unfold atW at h
  rw [h, goW_step (by omega), hf]
theorem atW_next {f : UInt8 → List UInt8 → Option Int} {s w : ByteArray} {op k n : Int} {i : Ins} (h : atW f s op k i) (h0 : 0 ≤ k) (hk : k < ((fieldsF op).size : Int)) (hw : w = (piecesB 32 s).getD (k + 1).toNat ByteArray.empty) (hp : ((piecesB 32 s).length : Int) = 1 + ((fieldsF op).size : Int))
    (hf : f ((ls (fieldsF op)).getD k.toNat 0) (ls w) = some n) : atW f s op (k + 1) (setI i (byteAt (fieldsF op) k.toNat) n) := by
  have hl := ls_length (fieldsF op); have hpl := pieces_len 32 s
  rw [hw, piecesB_getD 32 s _ (by omega), show (k + 1).toNat = k.toNat + 1 by omega] at hf
  unfold atW at h ⊢
  rw [h, goW_step (by omega), hf, byteAt_ls, show (k + 1).toNat = k.toNat + 1 by omega]
theorem atW_end {f : UInt8 → List UInt8 → Option Int} {s : ByteArray} {op k : Int} {i : Ins} (h : atW f s op k i) (hk : k = ((fieldsF op).size : Int)) : readI f (ls s) = some i := by
  unfold atW at h
  rw [h, List.drop_eq_nil_of_le (by rw [ls_length]; omega)]; rfl
theorem set_val {i : Ins} {c n : Int} : (c = 65 → setI i c n = { i with gA := n }) ∧ (c = 66 → setI i c n = { i with gB := n }) ∧ (c = 67 → setI i c n = { i with gC := n }) ∧ (c ≠ 65 → c ≠ 66 → c ≠ 67 → setI i c n = { i with gK := n }) := by
  unfold setI
  refine ⟨fun h => by rw [if_pos h], fun h => by rw [if_neg (by omega), if_pos h], fun h => by rw [if_neg (by omega), if_neg (by omega), if_pos h], fun h1 h2 h3 => by rw [if_neg h1, if_neg h2, if_neg h3]⟩
theorem byte_dec {F : ByteArray} {k : Nat} : ((ls F).getD k 0 = 75) ↔ byteAt F k = 75 := (byte_eq (c := 75) (by decide)).symm
theorem trim_size (w p : ByteArray) : (⟨(Lib.trimPrefix (ls w) (ls p)).toArray⟩ : ByteArray).size ≤ w.size := by
  rw [← ls_length, ls_mk, ← ls_length w]
  unfold Lib.trimPrefix
  split
  · rw [List.length_drop]; omega
  · exact Nat.le_refl _
theorem mat_k {F w : ByteArray} {k : Nat} (h : byteAt F k = 75) : matW ((ls F).getD k 0) (ls w) = atM (ls w) := by unfold matW; rw [if_pos (byte_dec.2 h)]
theorem mat_r {F w t : ByteArray} {k : Nat} (h : byteAt F k ≠ 75) (ht : t = ⟨(Lib.trimPrefix (ls w) (ls (⟨#[114]⟩ : ByteArray))).toArray⟩) : matW ((ls F).getD k 0) (ls w) = atM (ls t) := by
  unfold matW; rw [if_neg (fun e => h (byte_dec.1 e)), ht, ls_mk, show ls (⟨#[114]⟩ : ByteArray) = [114] from rfl, trim_eq]
theorem at_some {l : List UInt8} (h : (atM l).isSome = true) : atM l = some ((atM l).getD 0) := by
  cases hh : atM l with
  | none => rw [hh] at h; cases h
  | some n => rfl
theorem at_none {l : List UInt8} (h : (atM l).isSome = false) : atM l = none := by
  cases hh : atM l with
  | none => rfl
  | some n => rw [hh] at h; cases h
/-! the words of a text, cut at blanks -/
end
end Go.Proofs.YtaoolgcddapegaaGreatDoor

namespace Go.Proofs.YtaoolgcddapegaaGreatDoor
noncomputable section
open Go.Eng Go.RowKit
set_option linter.unusedSimpArgs false
set_option linter.unusedVariables false
set_option maxRecDepth 20000
set_option maxHeartbeats 20000000
theorem atoi_some (s : ByteArray) (w : World) (hs : s.size ≤ 281474976710656) (h : (atM (ls s)).isSome = true) : Ret Tryz.prog 55 #[.string s] w (fun v w' => v = .tuple #[iv ((atM (ls s)).getD 0), .nilIface] ∧ Sep w [] w') := by
  cases hh : Lib.atoiAll (ls s) with
  | ok n =>
    refine Ret.of_calls (Tryz.strconv_Atoi_ok s (by omega) n hh w) fun w' hw => ⟨?_, by rcases hw with rfl | ⟨t, rfl⟩; exact .refl _; exact .of_below (Lib.bytesWorld_below _ _ _)⟩
    unfold atM; rw [hh]; rfl
  | _ => unfold atM at h; rw [hh] at h; cases h
theorem atoi_none (s : ByteArray) (w : World) (hs : s.size ≤ 281474976710656) (h : (atM (ls s)).isSome = false) (hW : TabW w) : Ret Tryz.prog 55 #[.string s] w (fun v w' => ∃ x N, v = .tuple #[iv x, .iface 168 (pv N)] ∧ Sep w [] w') := by
  cases hh : Lib.atoiAll (ls s) with
  | ok n => unfold atM at h; rw [hh] at h; cases h
  | range =>
    obtain ⟨ev, hv, hev⟩ := hW.2.2.1
    exact Calls.mono (Tryz.strconv_Atoi_range s hs hh ev w hv hev) fun e w' ⟨N, he, _, _, hb⟩ => ⟨_, he, _, N, rfl, .of_below hb⟩
  | _ =>
    obtain ⟨ev, hv, hev⟩ := hW.2.1
    exact Calls.mono (Tryz.strconv_Atoi_syntax s hs hh ev w hv hev) fun e w' ⟨N, he, _, _, hb⟩ => ⟨_, he, _, N, rfl, .of_below hb⟩
theorem hb50 : HasBody Tryz.prog 50 := fun _ _ => by kernel_rfl
theorem split32_any (s : ByteArray) (w : World) (hs : s.size < 4294967281) (hW : TabW w) : Ret Tryz.prog 50 #[.string s, .string ⟨#[32]⟩] w (fun v w' => ∃ b, v = .slice (some ⟨b, 0, none⟩) (piecesB 32 s).length (piecesB 32 s).length ∧ Sep w [box b ((piecesB 32 s).map Value.string) 9] w') := by
  obtain ⟨m, hm⟩ := hW.2.2.2
  refine Calls.mono (Tryz.strings_Split s ⟨#[32]⟩ m w hs hm (Nat.le_refl 1)) fun e w' ⟨he, hw⟩ => ?_
  subst he hw
  rw [splitB_len, splitB_pieces]
  exact ⟨_, rfl, _, rfl, Sep.of_alloc _ _ _⟩
theorem hb53 : HasBody Tryz.prog 53 := fun _ _ => by kernel_rfl

theorem parse1_any (r : Rwo) (bx : Nat) (pa : Option Addr) (pn pc : Nat) (l : List ByteArray) (w : World) (hI : Ones Value.string w pa pn l) (hpn : 0 < pn) (hb : (box bx [.slice pa pn pc] 104).holds w) : Ret Tryz.prog 53 #[.agg (rwoA r), pv bx] w (fun v w' => v = .bool (r.gname.toList == (l.getD 0 ByteArray.empty).toList) ∧ Sep w [] w') := by
 refine Ret.st (N := 10) Tryz.func53 fun R hR S0 => ?_
 refine J.nw 2 [] [] [] S0 2 (rwoC r) 109 fun b1 w1 S1 => ?_
 refine J.r 3 [] [] [] ?_
 obtain ⟨p1, hp1, hc1⟩ := hI.at ByteArray.empty 0 (by omega)
 refine J.drawStill S1 7 Tryz.mixed (by kernel_rfl) (by kernel_rfl) (by kernel_rfl) ?_
 intro w2 S2
 refine SL.r 4 (pv b1) ?_
 refine SL.lb S2 0 rfl 5 (.string r.gname) ?_
 refine SL.ok (by decide) (OK.ldRo S2 hb 6 104 0 (.slice pa pn pc) (by kernel_rfl) (by kernel_rfl)) ?_
 refine SL.ok (by decide) (OK.index 7 104 1 pa p1 pn 0 0 (p1.add 0) (by kernel_rfl) (by kernel_rfl) hp1 (by omega) (by omega) (by rw [Nat.mul_one])) ?_
 refine SL.ok (by decide) (OK.ldCell 8 9 (p1.add 0) (.string (l.getD 0 ByteArray.empty)) (by kernel_rfl) (by kernel_rfl) (S2.cell hc1)) ?_
 refine SL.r 9 (.bool (r.gname.toList == (l.getD 0 ByteArray.empty).toList)) ?_
 refine SL.r 3 (.bool (r.gname.toList == (l.getD 0 ByteArray.empty).toList)) ?_
 refine SL.done ?_
 refine TL.done (by kernel_rfl) ?_
 refine J.e 0 [.bool (r.gname.toList == (l.getD 0 ByteArray.empty).toList)] Tryz.func53 (hR _ _ ?_)
 exact ⟨rfl, S2.nil⟩

theorem hb51 : HasBody Tryz.prog 51 := fun _ _ => by kernel_rfl
def K51_0 := adv 13 [] (bodyOf Tryz.f51)
theorem indexRW1 (la : Option Addr) (len cap : Nat) (l : List Rwo) (g : FuncId) (c1 : Value) (q : Rwo → Bool) (w : World) (hI : Recs rwoE 3 w la len l) (hlen : len ≤ 9223372036854775807) (hbg : HasBody Tryz.prog g) (hcall : ∀ (i : Nat) (w2 : World), i < l.length → Sep w [] w2 → Ret Tryz.prog g #[.agg (rwoA (l.getD i rwo0)), c1] w2 (fun v w3 => v = .bool (q (l.getD i rwo0)) ∧ Sep w2 [] w3)) : Ret Tryz.prog 51 #[.slice la len cap, .func (.func g) #[] #[c1]] w (fun v w' => v = iv (indexF q l) ∧ Sep w [] w') := by
 refine Ret.st (N := 19) Tryz.func51 fun R hR S0 => ?_
 have L51_1 : ∀ (mm_ : Nat) (i : Int) (w1 : World), (0 ≤ i) → (i ≤ (len : Int)) → (∀ j, j < (i).toNat → q (l.getD j rwo0) = false) → Sep w [] w1 → ((len : Int) - i).toNat = mm_ → J Tryz.prog 51 19 R K51_0 [(8, iv i), (7, iv (len : Int)), (0, .slice la len cap), (1, .func (.func g) #[] #[c1])] w1 := by
  intro mm1
  induction mm1 using Nat.strongRecOn with
  | _ mm1 ih1 =>
  intro i w1 h0 h1 hq S1 hm1
  refine J.c 5 [] [] [] 9 (i < (len : Int)) (fun fk1 => ?_) fun fk1 => ?_
  ·skip
   refine J.r 14 [true] [(13, iv i), (12, .slice la len cap), (11, .func (.func g) #[] #[c1]), (5, iv i)] [] ?_
   obtain ⟨p1, hp1, hc1⟩ := hI.at rwo0 (i).toNat (by omega)
   refine J.ok (OK.index 14 107 3 la p1 len (i).toNat i (p1.add ((i).toNat * 3)) (by kernel_rfl) (by kernel_rfl) hp1 (by omega) (by omega) rfl) ?_
   refine J.ok (OK.ldCells 15 109 (p1.add ((i).toNat * 3)) (rwoC (l.getD (i).toNat rwo0)) (by kernel_rfl) (by kernel_rfl) (by kernel_rfl) (fun j_ v_ hj_ => S1.cell (hc1 j_ v_ hj_))) ?_
   refine J.callF 16 g #[.agg (rwoA (l.getD (i).toNat rwo0)), c1] hbg (by kernel_rfl) (hcall (i).toNat w1 (by have := hI.len_eq; omega) S1.nil) ?_
   rintro _ w2 ⟨rfl, T1⟩
   have S2 : Sep w [] w2 := S1.trans T1
   refine J.b 1 [] [] [] 16 (q (l.getD (i).toNat rwo0)) (fun fk2 => ?_) fun fk2 => ?_
   ·skip
    refine J.e 6 [iv i] Tryz.func51 (hR _ _ ?_)
    exact ⟨by rw [tup_one, indexF_some rwo0 i.toNat (by have := hI.len_eq; omega) hq fk2, Int.toNat_of_nonneg h0], S2.nil⟩
   refine J.wi 5 [false] [] [] 18 (i + 1) ?_
   exact J.t 3 (ih1 _ (show ((len : Int) - (i + 1)).toNat < mm1 from by omega) (i + 1) w2 (by omega) (by omega) (by intro j hj; by_cases e : j = i.toNat; (subst e; exact fk2); exact hq j (by omega)) S2 rfl)
  refine J.e 6 [iv (-1)] Tryz.func51 (hR _ _ ?_)
  exact ⟨by rw [tup_one, indexF_none rwo0 fun j hj => hq j (by have := hI.len_eq; omega)], S1.nil⟩
 exact J.t 13 (L51_1 _ 0 w (by omega) (by omega) (by intro j hj; simp at hj) S0 rfl)

end
end Go.Proofs.YtaoolgcddapegaaGreatDoor

