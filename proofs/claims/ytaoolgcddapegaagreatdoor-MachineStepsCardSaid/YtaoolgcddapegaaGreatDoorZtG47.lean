/- Walks of functions of this seat, printed by a program over the engine. Conditions: as each theorem says. -/
import Derived.Test.YtaoolgcddapegaaGreatDoorZtG46
import Derived.Test.YtaoolgcddapegaaGreatDoorZtW14
set_option linter.unusedSimpArgs false
set_option linter.unusedVariables false
namespace Go.Proofs.YtaoolgcddapegaaGreatDoor
open Go.Eng Go.RowKit
set_option maxRecDepth 20000
set_option maxHeartbeats 20000000
theorem st_arg2 {p:Prg} {n:Nat} {rs:List Int} {k:Int} (h:dK p=false∨¬ (n:Int)=p.aB):stE p n rs k=1:=by
  refine st_arg ?_
  unfold goodP
  rcases h with h | h
  · rw[h];rfl
  · rw[decide_eq_false h,Bool.and_false]

end Go.Proofs.YtaoolgcddapegaaGreatDoor

namespace Go.Proofs.YtaoolgcddapegaaGreatDoor
noncomputable section
open Go.Eng Go.RowKit Go.Proofs.Tryz
set_option maxRecDepth 20000
set_option maxHeartbeats 20000000
theorem hb18:af prog 18:=fun _ _=>by kernel_rfl

theorem encode_any (i:Ins) (w:World) (hi:insQ w i):Ret prog 18 #[.agg (de i)] w (fun v w'=>∃ a cap,v=.tuple #[.slice a (encX i).length cap,iv (encE i)]∧Sep w [ap (dh (Value.int .u8)) a cap 5 1 (encX i)] w'):=by
 refine Ret.st (N:=36) func18 fun R hR S0=>?_
 obtain ⟨q1,q2,q3,q4,q5,_⟩:=id hi
 have hu:0≤aK i.gK∧aK i.gK<18446744073709551616:=by unfold aK;omega
 refine J.nw 2 [] [] [] S0 1 (aO i) 48 fun b1 w1 S1=>J.lb 6 [] [] [] S1 0 rfl 6 (.agg (de i))<|J.c0 0 [] [] [] S1 7 hb49 (formed_any i _ (dd hi S1)) fun w2 S2=>J.bn 2 [] [] [] 8 (df i) (fun fk1=>?_) fun fk1=>?_
 refine J.lb 5 [false] [] [] S2 0 rfl 10 (iv i.gOp)<|J.h 1 [] [] [] 11 (.int .u8 (IntKind.wrap .u8 i.gOp)) (.int .u8 (i.gOp%256)) (congrArg (Value.int .u8) (wrapB _))<|J.lb 1 [] [] [] S2 0 rfl 13 (iv i.gA)<|J.h 1 [] [] [] 14 (.int .u8 (IntKind.wrap .u8 i.gA)) (.int .u8 (i.gA%256)) (congrArg (Value.int .u8) (wrapB _))<|J.lb 1 [] [] [] S2 0 rfl 16 (iv i.gB)<|J.h 1 [] [] [] 17 (.int .u8 (IntKind.wrap .u8 i.gB)) (.int .u8 (i.gB%256)) (congrArg (Value.int .u8) (wrapB _))<|J.lb 1 [] [] [] S2 0 rfl 19 (iv i.gC)<|J.h 1 [] [] [] 20 (.int .u8 (IntKind.wrap .u8 i.gC)) (.int .u8 (i.gC%256)) (congrArg (Value.int .u8) (wrapB _))<|J.newSlice S2 21 4 [.int .u8 (i.gOp%256),.int .u8 (i.gA%256),.int .u8 (i.gB%256),.int .u8 (i.gC%256)] 5 kr ?_
 intro b2 w3 S3
 refine J.lb 22 [true] [(26,.slice (some ⟨b2,0,none⟩) 4 4),(5,iv 56)] [] S3 1 rfl 28 (iv i.gK)<|J.h 1 [] [] [] 29 (.int .u64 (IntKind.wrap .u64 i.gK)) (.int .u64 (aK i.gK)) (congrArg (Value.int .u64) (wrapU _))<|J.h 2 [] [] [] 31 (.int .u64 (Int.fdiv (aK i.gK) (2^56))) (.int .u64 ((aK i.gK)/72057594037927936)) (congrArg (Value.int .u64) (cw _ _ dE))<|J.h 1 [] [] [] 32 (.int .u8 (IntKind.wrap .u8 ((aK i.gK)/72057594037927936))) (.int .u8 (((aK i.gK)/72057594037927936)%256)) (congrArg (Value.int .u8) (wrapB _))<|J.newSlice S3 33 1 [.int .u8 (((aK i.gK)/72057594037927936)%256)] 5 kr ?_
 intro b3 w4 S4
 have S5:Sep w [box b3 [.int .u8 (((aK i.gK)/72057594037927936)%256)] 5,ap (dh (Value.int .u8)) (some ⟨b2,0,none⟩) 4 5 1 ([i.gOp%256,i.gA%256,i.gB%256,i.gC%256]),box b1 (aO i) 48] w4:=box_row (dh (Value.int .u8)) S4 1 [i.gOp%256,i.gA%256,i.gB%256,i.gC%256] 1 rfl rfl rfl (by simp[maxLen]) (.inr trivial)
 refine J.append (dh (Value.int .u8)) S5 1 ([i.gOp%256,i.gA%256,i.gB%256,i.gC%256]) (((aK i.gK)/72057594037927936)%256) 34 52 (.int .u8 0) 1 ⟨b3,0,none⟩ 1 rfl kr kr kr kr dE (bX (S5.nth 0 rfl)) kr kr (⟨by (try simp only[List.length_append,List.length_cons,List.length_nil]);omega,by (try simp only[List.length_append,List.length_cons,List.length_nil]);omega⟩) ?_
 intro ra1 rc1 w5 S6
 replace S6:Sep w [box b3 [.int .u8 (((aK i.gK)/72057594037927936)%256)] 5,ap (dh (Value.int .u8)) ra1 rc1 5 1 (([i.gOp%256,i.gA%256,i.gB%256,i.gC%256])++[((aK i.gK)/72057594037927936)%256]),box b1 (aO i) 48] w5:=S6
 refine J.lb 22 [true] [(26,.slice ra1 ((([i.gOp%256,i.gA%256,i.gB%256,i.gC%256])++[((aK i.gK)/72057594037927936)%256]).length) rc1),(5,iv 48)] [] (S6.erase 0) 1 rfl 28 (iv i.gK)<|J.h 1 [] [] [29] 29 (.int .u64 (IntKind.wrap .u64 i.gK)) (.int .u64 (aK i.gK)) (congrArg (Value.int .u64) (wrapU _))<|J.h 2 [] [] [31] 31 (.int .u64 (Int.fdiv (aK i.gK) (2^48))) (.int .u64 ((aK i.gK)/281474976710656)) (congrArg (Value.int .u64) (cw _ _ dE))<|J.h 1 [] [] [32] 32 (.int .u8 (IntKind.wrap .u8 ((aK i.gK)/281474976710656))) (.int .u8 (((aK i.gK)/281474976710656)%256)) (congrArg (Value.int .u8) (wrapB _))<|J.newSlice (S6.erase 0) 33 1 [.int .u8 (((aK i.gK)/281474976710656)%256)] 5 kr ?_
 intro b4 w6 S7
 refine J.append (dh (Value.int .u8)) S7 1 (([i.gOp%256,i.gA%256,i.gB%256,i.gC%256])++[((aK i.gK)/72057594037927936)%256]) (((aK i.gK)/281474976710656)%256) 34 52 (.int .u8 0) 1 ⟨b4,0,none⟩ 1 rfl kr kr kr kr dE (bX (S7.nth 0 rfl)) kr kr (⟨by (try simp only[List.length_append,List.length_cons,List.length_nil]);omega,by (try simp only[List.length_append,List.length_cons,List.length_nil]);omega⟩) ?_
 intro ra2 rc2 w7 S8
 replace S8:Sep w [box b4 [.int .u8 (((aK i.gK)/281474976710656)%256)] 5,ap (dh (Value.int .u8)) ra2 rc2 5 1 ((([i.gOp%256,i.gA%256,i.gB%256,i.gC%256])++[((aK i.gK)/72057594037927936)%256])++[((aK i.gK)/281474976710656)%256]),box b1 (aO i) 48] w7:=S8
 refine J.lb 22 [true] [(26,.slice ra2 (((([i.gOp%256,i.gA%256,i.gB%256,i.gC%256])++[((aK i.gK)/72057594037927936)%256])++[((aK i.gK)/281474976710656)%256]).length) rc2),(5,iv 40)] [] (S8.erase 0) 1 rfl 28 (iv i.gK)<|J.h 1 [] [] [29] 29 (.int .u64 (IntKind.wrap .u64 i.gK)) (.int .u64 (aK i.gK)) (congrArg (Value.int .u64) (wrapU _))<|J.h 2 [] [] [31] 31 (.int .u64 (Int.fdiv (aK i.gK) (2^40))) (.int .u64 ((aK i.gK)/1099511627776)) (congrArg (Value.int .u64) (cw _ _ dE))<|J.h 1 [] [] [32] 32 (.int .u8 (IntKind.wrap .u8 ((aK i.gK)/1099511627776))) (.int .u8 (((aK i.gK)/1099511627776)%256)) (congrArg (Value.int .u8) (wrapB _))<|J.newSlice (S8.erase 0) 33 1 [.int .u8 (((aK i.gK)/1099511627776)%256)] 5 kr ?_
 intro b5 w8 S9
 refine J.append (dh (Value.int .u8)) S9 1 ((([i.gOp%256,i.gA%256,i.gB%256,i.gC%256])++[((aK i.gK)/72057594037927936)%256])++[((aK i.gK)/281474976710656)%256]) (((aK i.gK)/1099511627776)%256) 34 52 (.int .u8 0) 1 ⟨b5,0,none⟩ 1 rfl kr kr kr kr dE (bX (S9.nth 0 rfl)) kr kr (⟨by (try simp only[List.length_append,List.length_cons,List.length_nil]);omega,by (try simp only[List.length_append,List.length_cons,List.length_nil]);omega⟩) ?_
 intro ra3 rc3 w9 S10
 replace S10:Sep w [box b5 [.int .u8 (((aK i.gK)/1099511627776)%256)] 5,ap (dh (Value.int .u8)) ra3 rc3 5 1 (((([i.gOp%256,i.gA%256,i.gB%256,i.gC%256])++[((aK i.gK)/72057594037927936)%256])++[((aK i.gK)/281474976710656)%256])++[((aK i.gK)/1099511627776)%256]),box b1 (aO i) 48] w9:=S10
 refine J.lb 22 [true] [(26,.slice ra3 ((((([i.gOp%256,i.gA%256,i.gB%256,i.gC%256])++[((aK i.gK)/72057594037927936)%256])++[((aK i.gK)/281474976710656)%256])++[((aK i.gK)/1099511627776)%256]).length) rc3),(5,iv 32)] [] (S10.erase 0) 1 rfl 28 (iv i.gK)<|J.h 1 [] [] [29] 29 (.int .u64 (IntKind.wrap .u64 i.gK)) (.int .u64 (aK i.gK)) (congrArg (Value.int .u64) (wrapU _))<|J.h 2 [] [] [31] 31 (.int .u64 (Int.fdiv (aK i.gK) (2^32))) (.int .u64 ((aK i.gK)/4294967296)) (congrArg (Value.int .u64) (cw _ _ dE))<|J.h 1 [] [] [32] 32 (.int .u8 (IntKind.wrap .u8 ((aK i.gK)/4294967296))) (.int .u8 (((aK i.gK)/4294967296)%256)) (congrArg (Value.int .u8) (wrapB _))<|J.newSlice (S10.erase 0) 33 1 [.int .u8 (((aK i.gK)/4294967296)%256)] 5 kr ?_
 intro b6 w10 S11
 refine J.append (dh (Value.int .u8)) S11 1 (((([i.gOp%256,i.gA%256,i.gB%256,i.gC%256])++[((aK i.gK)/72057594037927936)%256])++[((aK i.gK)/281474976710656)%256])++[((aK i.gK)/1099511627776)%256]) (((aK i.gK)/4294967296)%256) 34 52 (.int .u8 0) 1 ⟨b6,0,none⟩ 1 rfl kr kr kr kr dE (bX (S11.nth 0 rfl)) kr kr (⟨by (try simp only[List.length_append,List.length_cons,List.length_nil]);omega,by (try simp only[List.length_append,List.length_cons,List.length_nil]);omega⟩) ?_
 intro ra4 rc4 w11 S12
 replace S12:Sep w [box b6 [.int .u8 (((aK i.gK)/4294967296)%256)] 5,ap (dh (Value.int .u8)) ra4 rc4 5 1 ((((([i.gOp%256,i.gA%256,i.gB%256,i.gC%256])++[((aK i.gK)/72057594037927936)%256])++[((aK i.gK)/281474976710656)%256])++[((aK i.gK)/1099511627776)%256])++[((aK i.gK)/4294967296)%256]),box b1 (aO i) 48] w11:=S12
 refine J.lb 22 [true] [(26,.slice ra4 (((((([i.gOp%256,i.gA%256,i.gB%256,i.gC%256])++[((aK i.gK)/72057594037927936)%256])++[((aK i.gK)/281474976710656)%256])++[((aK i.gK)/1099511627776)%256])++[((aK i.gK)/4294967296)%256]).length) rc4),(5,iv 24)] [] (S12.erase 0) 1 rfl 28 (iv i.gK)<|J.h 1 [] [] [29] 29 (.int .u64 (IntKind.wrap .u64 i.gK)) (.int .u64 (aK i.gK)) (congrArg (Value.int .u64) (wrapU _))<|J.h 2 [] [] [31] 31 (.int .u64 (Int.fdiv (aK i.gK) (2^24))) (.int .u64 ((aK i.gK)/16777216)) (congrArg (Value.int .u64) (cw _ _ dE))<|J.h 1 [] [] [32] 32 (.int .u8 (IntKind.wrap .u8 ((aK i.gK)/16777216))) (.int .u8 (((aK i.gK)/16777216)%256)) (congrArg (Value.int .u8) (wrapB _))<|J.newSlice (S12.erase 0) 33 1 [.int .u8 (((aK i.gK)/16777216)%256)] 5 kr ?_
 intro b7 w12 S13
 refine J.append (dh (Value.int .u8)) S13 1 ((((([i.gOp%256,i.gA%256,i.gB%256,i.gC%256])++[((aK i.gK)/72057594037927936)%256])++[((aK i.gK)/281474976710656)%256])++[((aK i.gK)/1099511627776)%256])++[((aK i.gK)/4294967296)%256]) (((aK i.gK)/16777216)%256) 34 52 (.int .u8 0) 1 ⟨b7,0,none⟩ 1 rfl kr kr kr kr dE (bX (S13.nth 0 rfl)) kr kr (⟨by (try simp only[List.length_append,List.length_cons,List.length_nil]);omega,by (try simp only[List.length_append,List.length_cons,List.length_nil]);omega⟩) ?_
 intro ra5 rc5 w13 S14
 replace S14:Sep w [box b7 [.int .u8 (((aK i.gK)/16777216)%256)] 5,ap (dh (Value.int .u8)) ra5 rc5 5 1 (((((([i.gOp%256,i.gA%256,i.gB%256,i.gC%256])++[((aK i.gK)/72057594037927936)%256])++[((aK i.gK)/281474976710656)%256])++[((aK i.gK)/1099511627776)%256])++[((aK i.gK)/4294967296)%256])++[((aK i.gK)/16777216)%256]),box b1 (aO i) 48] w13:=S14
 refine J.lb 22 [true] [(26,.slice ra5 ((((((([i.gOp%256,i.gA%256,i.gB%256,i.gC%256])++[((aK i.gK)/72057594037927936)%256])++[((aK i.gK)/281474976710656)%256])++[((aK i.gK)/1099511627776)%256])++[((aK i.gK)/4294967296)%256])++[((aK i.gK)/16777216)%256]).length) rc5),(5,iv 16)] [] (S14.erase 0) 1 rfl 28 (iv i.gK)<|J.h 1 [] [] [29] 29 (.int .u64 (IntKind.wrap .u64 i.gK)) (.int .u64 (aK i.gK)) (congrArg (Value.int .u64) (wrapU _))<|J.h 2 [] [] [31] 31 (.int .u64 (Int.fdiv (aK i.gK) (2^16))) (.int .u64 ((aK i.gK)/65536)) (congrArg (Value.int .u64) (cw _ _ dE))<|J.h 1 [] [] [32] 32 (.int .u8 (IntKind.wrap .u8 ((aK i.gK)/65536))) (.int .u8 (((aK i.gK)/65536)%256)) (congrArg (Value.int .u8) (wrapB _))<|J.newSlice (S14.erase 0) 33 1 [.int .u8 (((aK i.gK)/65536)%256)] 5 kr ?_
 intro b8 w14 S15
 refine J.append (dh (Value.int .u8)) S15 1 (((((([i.gOp%256,i.gA%256,i.gB%256,i.gC%256])++[((aK i.gK)/72057594037927936)%256])++[((aK i.gK)/281474976710656)%256])++[((aK i.gK)/1099511627776)%256])++[((aK i.gK)/4294967296)%256])++[((aK i.gK)/16777216)%256]) (((aK i.gK)/65536)%256) 34 52 (.int .u8 0) 1 ⟨b8,0,none⟩ 1 rfl kr kr kr kr dE (bX (S15.nth 0 rfl)) kr kr (⟨by (try simp only[List.length_append,List.length_cons,List.length_nil]);omega,by (try simp only[List.length_append,List.length_cons,List.length_nil]);omega⟩) ?_
 intro ra6 rc6 w15 S16
 replace S16:Sep w [box b8 [.int .u8 (((aK i.gK)/65536)%256)] 5,ap (dh (Value.int .u8)) ra6 rc6 5 1 ((((((([i.gOp%256,i.gA%256,i.gB%256,i.gC%256])++[((aK i.gK)/72057594037927936)%256])++[((aK i.gK)/281474976710656)%256])++[((aK i.gK)/1099511627776)%256])++[((aK i.gK)/4294967296)%256])++[((aK i.gK)/16777216)%256])++[((aK i.gK)/65536)%256]),box b1 (aO i) 48] w15:=S16
 refine J.lb 22 [true] [(26,.slice ra6 (((((((([i.gOp%256,i.gA%256,i.gB%256,i.gC%256])++[((aK i.gK)/72057594037927936)%256])++[((aK i.gK)/281474976710656)%256])++[((aK i.gK)/1099511627776)%256])++[((aK i.gK)/4294967296)%256])++[((aK i.gK)/16777216)%256])++[((aK i.gK)/65536)%256]).length) rc6),(5,iv 8)] [] (S16.erase 0) 1 rfl 28 (iv i.gK)<|J.h 1 [] [] [29] 29 (.int .u64 (IntKind.wrap .u64 i.gK)) (.int .u64 (aK i.gK)) (congrArg (Value.int .u64) (wrapU _))<|J.h 2 [] [] [31] 31 (.int .u64 (Int.fdiv (aK i.gK) (2^8))) (.int .u64 ((aK i.gK)/256)) (congrArg (Value.int .u64) (cw _ _ dE))<|J.h 1 [] [] [32] 32 (.int .u8 (IntKind.wrap .u8 ((aK i.gK)/256))) (.int .u8 (((aK i.gK)/256)%256)) (congrArg (Value.int .u8) (wrapB _))<|J.newSlice (S16.erase 0) 33 1 [.int .u8 (((aK i.gK)/256)%256)] 5 kr ?_
 intro b9 w16 S17
 refine J.append (dh (Value.int .u8)) S17 1 ((((((([i.gOp%256,i.gA%256,i.gB%256,i.gC%256])++[((aK i.gK)/72057594037927936)%256])++[((aK i.gK)/281474976710656)%256])++[((aK i.gK)/1099511627776)%256])++[((aK i.gK)/4294967296)%256])++[((aK i.gK)/16777216)%256])++[((aK i.gK)/65536)%256]) (((aK i.gK)/256)%256) 34 52 (.int .u8 0) 1 ⟨b9,0,none⟩ 1 rfl kr kr kr kr dE (bX (S17.nth 0 rfl)) kr kr (⟨by (try simp only[List.length_append,List.length_cons,List.length_nil]);omega,by (try simp only[List.length_append,List.length_cons,List.length_nil]);omega⟩) ?_
 intro ra7 rc7 w17 S18
 replace S18:Sep w [box b9 [.int .u8 (((aK i.gK)/256)%256)] 5,ap (dh (Value.int .u8)) ra7 rc7 5 1 (((((((([i.gOp%256,i.gA%256,i.gB%256,i.gC%256])++[((aK i.gK)/72057594037927936)%256])++[((aK i.gK)/281474976710656)%256])++[((aK i.gK)/1099511627776)%256])++[((aK i.gK)/4294967296)%256])++[((aK i.gK)/16777216)%256])++[((aK i.gK)/65536)%256])++[((aK i.gK)/256)%256]),box b1 (aO i) 48] w17:=S18
 refine J.lb 22 [true] [(26,.slice ra7 ((((((((([i.gOp%256,i.gA%256,i.gB%256,i.gC%256])++[((aK i.gK)/72057594037927936)%256])++[((aK i.gK)/281474976710656)%256])++[((aK i.gK)/1099511627776)%256])++[((aK i.gK)/4294967296)%256])++[((aK i.gK)/16777216)%256])++[((aK i.gK)/65536)%256])++[((aK i.gK)/256)%256]).length) rc7),(5,iv 0)] [] (S18.erase 0) 1 rfl 28 (iv i.gK)<|J.h 1 [] [] [29] 29 (.int .u64 (IntKind.wrap .u64 i.gK)) (.int .u64 (aK i.gK)) (congrArg (Value.int .u64) (wrapU _))<|J.h 2 [] [] [31] 31 (.int .u64 (Int.fdiv (aK i.gK) (2^0))) (.int .u64 ((aK i.gK)/1)) (congrArg (Value.int .u64) (cw _ _ dE))<|J.h 1 [] [] [32] 32 (.int .u8 (IntKind.wrap .u8 ((aK i.gK)/1))) (.int .u8 (((aK i.gK)/1)%256)) (congrArg (Value.int .u8) (wrapB _))<|J.newSlice (S18.erase 0) 33 1 [.int .u8 (((aK i.gK)/1)%256)] 5 kr ?_
 intro b10 w18 S19
 refine J.append (dh (Value.int .u8)) S19 1 (((((((([i.gOp%256,i.gA%256,i.gB%256,i.gC%256])++[((aK i.gK)/72057594037927936)%256])++[((aK i.gK)/281474976710656)%256])++[((aK i.gK)/1099511627776)%256])++[((aK i.gK)/4294967296)%256])++[((aK i.gK)/16777216)%256])++[((aK i.gK)/65536)%256])++[((aK i.gK)/256)%256]) (((aK i.gK)/1)%256) 34 52 (.int .u8 0) 1 ⟨b10,0,none⟩ 1 rfl kr kr kr kr dE (bX (S19.nth 0 rfl)) kr kr (⟨by (try simp only[List.length_append,List.length_cons,List.length_nil]);omega,by (try simp only[List.length_append,List.length_cons,List.length_nil]);omega⟩) ?_
 intro ra8 rc8 w19 S20
 replace S20:Sep w [box b10 [.int .u8 (((aK i.gK)/1)%256)] 5,ap (dh (Value.int .u8)) ra8 rc8 5 1 ((((((((([i.gOp%256,i.gA%256,i.gB%256,i.gC%256])++[((aK i.gK)/72057594037927936)%256])++[((aK i.gK)/281474976710656)%256])++[((aK i.gK)/1099511627776)%256])++[((aK i.gK)/4294967296)%256])++[((aK i.gK)/16777216)%256])++[((aK i.gK)/65536)%256])++[((aK i.gK)/256)%256])++[((aK i.gK)/1)%256]),box b1 (aO i) 48] w19:=S20
 refine J.e 23 [.slice ra8 (((((((((([i.gOp%256,i.gA%256,i.gB%256,i.gC%256])++[((aK i.gK)/72057594037927936)%256])++[((aK i.gK)/281474976710656)%256])++[((aK i.gK)/1099511627776)%256])++[((aK i.gK)/4294967296)%256])++[((aK i.gK)/16777216)%256])++[((aK i.gK)/65536)%256])++[((aK i.gK)/256)%256])++[((aK i.gK)/1)%256]).length) rc8,iv 0] func18 (hR _ _ ?_)
 obtain ⟨e1,e2⟩:=encX_yes (i:=i) fk1
 exact⟨_,_,by rw[e1,e2];rfl,by rw[e1];exact(S20.erase 0).pick 0 rfl⟩
 refine J.e 6 [.slice none 0 0,iv 1] func18 (hR _ _ ?_)
 obtain ⟨e1,e2⟩:=encX_no (i:=i) fk1
 exact⟨none,0,by rw[e1,e2];rfl,by rw[e1];exact S2.nil.nilRow 5 1⟩
abbrev kvW25_1:List Value:=[.string ByteArray.empty,.string ByteArray.empty,iv 0]
theorem hb21:af prog 21:=fun _ _=>by kernel_rfl
def K21_0:=adv 15 [false] (bl Tryz.f21)
def K21_1:=adv 17 [] (cJ (adv 15 [false] (bl Tryz.f21)))
theorem mtext_any (i:Ins) (w:World) (hi:insQ w i) (hW:TabW w):Ret prog 21 #[.agg (de i)] w (fun v w'=>v=.string (textI i)∧Sep w [] w'):=by
 refine Ret.st (N:=39) func21 fun R hR S0=>?_
 obtain ⟨q1,q2,q3,q4,q5,_⟩:=id hi
 have hrl_:=rows_len
 refine J.nw 2 [] [] [] S0 1 (aO i) 48 fun b1 w1 S1=>J.lb 5 [] [] [] S1 0 rfl 7 (.agg (de i))<|J.c0 0 [] [] [] S1 8 hb49 (formed_any i _ (dd hi S1)) fun w2 S2=>J.bn 2 [] [] [] 9 (df i) (fun fk1=>?_) fun fk1=>?_
 have hfp:=dM.1 fk1
 have hrs:=rows_size (op:=i.gOp) om
 refine J.r 3 [false] [] [] ?_
 have W1:∀ (bd5:Nat) (bd0:Nat) (w3:World),Sep w [box bd0 (aw.flatMap dc) 109,box bd5 (rwoC (aw.getD ((i.gOp).toNat) aV)) 109,box b1 (aO i) 48] w3→WA prog 21 39 R K21_0 (fun w_=>Sep w [box b1 (aO i) 48] w_) 0 #[true,true,true,true,true,true,true] [(1,pv b1),(3,pv bd5)] w3:=by
  intro bd5 bd0 w3 S3
  refine WA.done kr<|J.lb 3 [] [] [] S3 1 rfl 16 (.string ((aw.getD ((i.gOp).toNat) aV).gname))<|J.lb 6 [] [(4,.string ((aw.getD ((i.gOp).toNat) aV).gname))] [] S3 1 rfl 18 (.string ((aw.getD ((i.gOp).toNat) aV).gfields))<|J.strBytes S3 19 9 52 5 ((aw.getD ((i.gOp).toNat) aV).gfields) kr kr ?_
  intro b2 cq1 w4 S4
  have L21_1:∀ (mm_:Nat) (t:ByteArray) (k:Int) (w5:World),(0≤k)→(k≤((aw.getD i.gOp.toNat aV).gfields.size:Int))→(((t).size:Int)≤7+22*k)→(ls t=ls (aw.getD i.gOp.toNat aV).gname++((ls (aw.getD i.gOp.toNat aV).gfields).take (k).toNat).flatMap (partL i))→Sep w [rows8 b2 ((aw.getD ((i.gOp).toNat) aV).gfields),box bd0 (aw.flatMap dc) 109,box bd5 (rwoC (aw.getD ((i.gOp).toNat) aV)) 109,box b1 (aO i) 48] w5→(((aw.getD i.gOp.toNat aV).gfields.size:Int)-k).toNat=mm_→J prog 21 39 R K21_1 [(21,iv k),(20,iv (((aw.getD ((i.gOp).toNat) aV).gfields).size:Int)),(19,.slice (some ⟨b2,0,none⟩) (((aw.getD ((i.gOp).toNat) aV).gfields).size) cq1),(4,.string t),(1,pv b1)] w5:=by
   intro mm1
   induction mm1 using Nat.strongRecOn with
   | _ mm1 ih1 =>
   intro t k w5 h0 h1 hz ht S5 hm1
   refine J.c 5 [] [] [] 22 (k<(((aw.getD ((i.gOp).toNat) aV).gfields).size:Int)) (fun fk2=>?_) fun fk2=>?_
   refine J.r 6 [true] [] [] ?_
   obtain ⟨p1,hp1,hc1⟩:=rows8_at (S5.nth 0 rfl) (k).toNat oz
   have:=ec ((aw.getD ((i.gOp).toNat) aV).gfields) (k).toNat
   refine J.ok (OK.index 23 52 1 (some ⟨b2,0,none⟩) p1 (((aw.getD ((i.gOp).toNat) aV).gfields).size) (k).toNat k (p1.add (k).toNat) kr kr hp1 om oz nO)<|J.ok (OK.ldCell 24 5 (p1.add (k).toNat) (.int .u8 (bv ((aw.getD ((i.gOp).toNat) aV).gfields) (k).toNat)) kr kr hc1)<|J.r 5 [] [(25,.string t),(6,.int .u8 (bv ((aw.getD ((i.gOp).toNat) aV).gfields) (k).toNat))] []<|J.ok (OK.cat 26 t (⟨#[32]⟩:ByteArray) (t++(⟨#[32]⟩:ByteArray)) kr (by first | (simp only[ByteArray.size_append,lit_size,List.size_toArray,List.length_cons,List.length_nil];omega)) (rfl))<|J.cn 8 [] [(4,.string (t++(⟨#[32]⟩:ByteArray)))] [] 28 ((bv ((aw.getD ((i.gOp).toNat) aV).gfields) (k).toNat)=75) (fun fk3=>?_) fun fk3=>?_
   refine J.lb 4 [false] [(31,.string (t++(⟨#[32]⟩:ByteArray)))] [] S5 3 rfl 32 (.agg (de i))<|J.r 1 [] [(33,.int .u8 (bv ((aw.getD ((i.gOp).toNat) aV).gfields) (k).toNat))] []<|J.c0 0 [] [] [] S5 34 hb57 (field_any i (bv ((aw.getD ((i.gOp).toNat) aV).gfields) (k).toNat) _) fun w6 S6=>?_
   have hfb:=fld_bd (i:=i) ⟨om,om,om,om⟩ (bv ((aw.getD ((i.gOp).toNat) aV).gfields) (k).toNat)
   refine J.c0 0 [] [] [] S6 35 hb56 (itoa_any (eh i (bv ((aw.getD ((i.gOp).toNat) aV).gfields) (k).toNat)) _ om (tabW_sep hW S6)) fun w7 S7=>?_
   have:=itoaB_size (n:=(eh i (bv ((aw.getD ((i.gOp).toNat) aV).gfields) (k).toNat))) om
   exact J.ok (OK.cat 36 (t++(⟨#[32]⟩:ByteArray)) (itoaB (eh i (bv ((aw.getD ((i.gOp).toNat) aV).gfields) (k).toNat))) ((t++(⟨#[32]⟩:ByteArray))++(itoaB (eh i (bv ((aw.getD ((i.gOp).toNat) aV).gfields) (k).toNat)))) kr (by first | (simp only[ByteArray.size_append,lit_size,List.size_toArray,List.length_cons,List.length_nil];omega)) (rfl))<|J.wi 5 [] [(4,.string ((t++(⟨#[32]⟩:ByteArray))++(itoaB (eh i (bv ((aw.getD ((i.gOp).toNat) aV).gfields) (k).toNat)))))] [] 37 (k+1)<|J.t 3 (ih1 _ (show(((aw.getD i.gOp.toNat aV).gfields.size:Int)-(k+1)).toNat<mm1 from by omega) ((t++(⟨#[32]⟩:ByteArray))++(itoaB (eh i (bv ((aw.getD ((i.gOp).toNat) aV).gfields) (k).toNat)))) (k+1) w7 om om (by simp only[ByteArray.size_append,lit_size,List.size_toArray,List.length_cons,List.length_nil];omega) (text_step h0 om ht (part_k om)) S7 rfl)
   refine J.r 3 [true] [(29,.string (t++(⟨#[32]⟩:ByteArray)))] []<|J.ok (OK.cat 30 (t++(⟨#[32]⟩:ByteArray)) (⟨#[114]⟩:ByteArray) ((t++(⟨#[32]⟩:ByteArray))++(⟨#[114]⟩:ByteArray)) kr (by first | (simp only[ByteArray.size_append,lit_size,List.size_toArray,List.length_cons,List.length_nil];omega)) (rfl))<|J.lb 4 [] [(31,.string ((t++(⟨#[32]⟩:ByteArray))++(⟨#[114]⟩:ByteArray)))] [4] S5 3 rfl 32 (.agg (de i))<|J.r 1 [] [(33,.int .u8 (bv ((aw.getD ((i.gOp).toNat) aV).gfields) (k).toNat))] []<|J.c0 0 [] [] [] S5 34 hb57 (field_any i (bv ((aw.getD ((i.gOp).toNat) aV).gfields) (k).toNat) _) fun w8 S8=>?_
   have hfb:=fld_bd (i:=i) ⟨om,om,om,om⟩ (bv ((aw.getD ((i.gOp).toNat) aV).gfields) (k).toNat)
   refine J.c0 0 [] [] [] S8 35 hb56 (itoa_any (eh i (bv ((aw.getD ((i.gOp).toNat) aV).gfields) (k).toNat)) _ om (tabW_sep hW S8)) fun w9 S9=>?_
   have:=itoaB_size (n:=(eh i (bv ((aw.getD ((i.gOp).toNat) aV).gfields) (k).toNat))) om
   exact J.ok (OK.cat 36 ((t++(⟨#[32]⟩:ByteArray))++(⟨#[114]⟩:ByteArray)) (itoaB (eh i (bv ((aw.getD ((i.gOp).toNat) aV).gfields) (k).toNat))) (((t++(⟨#[32]⟩:ByteArray))++(⟨#[114]⟩:ByteArray))++(itoaB (eh i (bv ((aw.getD ((i.gOp).toNat) aV).gfields) (k).toNat)))) kr (by first | (simp only[ByteArray.size_append,lit_size,List.size_toArray,List.length_cons,List.length_nil];omega)) (rfl))<|J.wi 5 [] [(4,.string (((t++(⟨#[32]⟩:ByteArray))++(⟨#[114]⟩:ByteArray))++(itoaB (eh i (bv ((aw.getD ((i.gOp).toNat) aV).gfields) (k).toNat)))))] [] 37 (k+1)<|J.t 3 (ih1 _ (show(((aw.getD i.gOp.toNat aV).gfields.size:Int)-(k+1)).toNat<mm1 from by omega) (((t++(⟨#[32]⟩:ByteArray))++(⟨#[114]⟩:ByteArray))++(itoaB (eh i (bv ((aw.getD ((i.gOp).toNat) aV).gfields) (k).toNat)))) (k+1) w9 om om (by simp only[ByteArray.size_append,lit_size,List.size_toArray,List.length_cons,List.length_nil];omega) (text_step h0 om ht (part_r om)) S9 rfl)
   refine J.e 7 [.string t] func21 (hR _ _ ?_)
   rw[show k.toNat=(aw.getD i.gOp.toNat aV).gfields.size by omega] at ht
   exact⟨congrArg Value.string (text_done fk1 ht),S5.nil⟩
  exact J.t 5 (L21_1 _ ((aw.getD ((i.gOp).toNat) aV).gname) 0 w4 om om om (by simp) S4 rfl)
 have W2:∀ (bd5:Nat) (bd0:Nat) (w10:World),Sep w [box bd0 (aw.flatMap dc) 109,box bd5 kvW25_1 109,box b1 (aO i) 48] w10→WA prog 21 39 R K21_0 (fun w_=>Sep w [box b1 (aO i) 48] w_) 1 #[true,true,true,true,true,true,false] [(1,pv b1),(3,pv bd5),(14,.agg (rwoA (aw.getD ((i.gOp).toNat) aV)))] w10:=by
  intro bd5 bd0 w10 S10
  refine WA.all [6] kr rfl ⟨?_,trivial⟩
  refine WO.set #[true,true,true,true,true,true,true] kr<|WO.stBox S10 1 109 0 (.agg (rwoA (aw.getD ((i.gOp).toNat) aV))) (rwoC (aw.getD ((i.gOp).toNat) aV)) [box bd0 (aw.flatMap dc) 109,box bd5 (rwoC (aw.getD ((i.gOp).toNat) aV)) 109,box b1 (aO i) 48] kr rfl kr kr rfl ?_
  intro w11 S11
  exact WB.mk ((S11.erase 1).erase 0)<|WA.weaken (env':=[(1,pv b1),(3,pv bd5)]) kr<|W1 bd5 bd0 w11 S11
 have W3:∀ (bd5:Nat) (bd0:Nat) (w12:World),Sep w [box bd0 (aw.flatMap dc) 109,box bd5 kvW25_1 109,box b1 (aO i) 48] w12→WA prog 21 39 R K21_0 (fun w_=>Sep w [box b1 (aO i) 48] w_) 2 #[true,true,true,true,false,true,false] [(1,pv b1),(3,pv bd5),(13,.pointer (some ⟨bd0,((i.gOp).toNat)*3,none⟩))] w12:=by
  intro bd5 bd0 w12 S12
  refine WA.all [4] kr rfl ⟨?_,trivial⟩
  exact WO.set #[true,true,true,true,true,true,false] kr<|WO.ok (OK.ldCells 14 109 ⟨bd0,((i.gOp).toNat)*3,none⟩ (rwoC (aw.getD ((i.gOp).toNat) aV)) kr kr kr (box_rec_at (s:=3) (S12.nth 0 rfl) (fun _=>rfl) dE aV ((i.gOp).toNat) oz))<|WB.mk ((S12.erase 1).erase 0)<|WA.weaken (env':=[(1,pv b1),(3,pv bd5),(14,.agg (rwoA (aw.getD ((i.gOp).toNat) aV)))]) kr<|W2 bd5 bd0 w12 S12
 have W4:∀ (bd0:Nat) (w13:World),Sep w [box bd0 (aw.flatMap dc) 109,box b1 (aO i) 48] w13→WA prog 21 39 R K21_0 (fun w_=>Sep w [box b1 (aO i) 48] w_) 2 #[true,true,true,true,true,false,false] [(1,pv b1),(14,.agg (rwoA (aw.getD ((i.gOp).toNat) aV)))] w13:=by
  intro bd0 w13 S13
  refine WA.all [5] kr rfl ⟨?_,trivial⟩
  refine WO.set #[true,true,true,true,true,true,false] kr<|WO.new S13 3 kvW25_1 109 kr ?_
  intro bd5 w14 S14
  refine WB.mk ((S14.erase 1).erase 0)<|WA.weaken (env':=[(1,pv b1),(3,pv bd5),(14,.agg (rwoA (aw.getD ((i.gOp).toNat) aV)))]) kr ?_
  have S15:Sep w [box bd5 kvW25_1 109,box bd0 (aw.flatMap dc) 109,box b1 (aO i) 48] w14:=S14.front 0 rfl
  have S16:Sep w [box bd0 (aw.flatMap dc) 109,box bd5 kvW25_1 109,box b1 (aO i) 48] w14:=S15.front 1 rfl
  exact W2 bd5 bd0 w14 S16
 have W5:∀ (bd0:Nat) (w15:World),Sep w [box bd0 (aw.flatMap dc) 109,box b1 (aO i) 48] w15→WA prog 21 39 R K21_0 (fun w_=>Sep w [box b1 (aO i) 48] w_) 3 #[true,true,true,true,false,false,false] [(1,pv b1),(13,.pointer (some ⟨bd0,((i.gOp).toNat)*3,none⟩))] w15:=by
  intro bd0 w15 S17
  refine WA.all [4,5] kr rfl ⟨?_,?_,trivial⟩
  exact WO.set #[true,true,true,true,true,false,false] kr<|WO.ok (OK.ldCells 14 109 ⟨bd0,((i.gOp).toNat)*3,none⟩ (rwoC (aw.getD ((i.gOp).toNat) aV)) kr kr kr (box_rec_at (s:=3) (S17.nth 0 rfl) (fun _=>rfl) dE aV ((i.gOp).toNat) oz))<|WB.mk (S17.erase 0)<|WA.weaken (env':=[(1,pv b1),(14,.agg (rwoA (aw.getD ((i.gOp).toNat) aV)))]) kr<|W4 bd0 w15 S17
  refine WO.set #[true,true,true,true,false,true,false] kr<|WO.new S17 3 kvW25_1 109 kr ?_
  intro bd5 w16 S18
  refine WB.mk ((S18.erase 1).erase 0)<|WA.weaken (env':=[(1,pv b1),(3,pv bd5),(13,.pointer (some ⟨bd0,((i.gOp).toNat)*3,none⟩))]) kr ?_
  have S19:Sep w [box bd5 kvW25_1 109,box bd0 (aw.flatMap dc) 109,box b1 (aO i) 48] w16:=S18.front 0 rfl
  have S20:Sep w [box bd0 (aw.flatMap dc) 109,box bd5 kvW25_1 109,box b1 (aO i) 48] w16:=S19.front 1 rfl
  exact W3 bd5 bd0 w16 S20
 have W6:∀ (bd5:Nat) (w17:World),Sep w [box bd5 kvW25_1 109,box b1 (aO i) 48] w17→WA prog 21 39 R K21_0 (fun w_=>Sep w [box b1 (aO i) 48] w_) 4 #[false,true,true,false,false,true,false] [(1,pv b1),(3,pv bd5),(12,iv i.gOp)] w17:=by
  intro bd5 w17 S21
  refine WA.all [0] kr rfl ⟨?_,trivial⟩
  refine WO.set #[true,true,true,false,false,true,false] kr<|WO.callF 10 52 #[] hb52 kr (rows_any _) ?_
  rintro _ w18 ⟨bd0,rfl,T1⟩
  have S22:Sep w [box bd0 (aw.flatMap dc) 109,box bd5 kvW25_1 109,box b1 (aO i) 48] w18:=S21.trans T1
  clear T1 S21
  exact WB.mk ((S22.erase 1).erase 0)<|WA.takeOK 3 #[true,true,true,true,false,true,false] kr kr kr kr (fun w_ S_=>OK.index 13 107 3 (some ⟨bd0,0,none⟩) ⟨bd0,0,none⟩ 23 (i.gOp).toNat i.gOp ⟨bd0,((i.gOp).toNat)*3,none⟩ kr kr rfl om oz (by rw[eF,Nat.zero_add])) rfl<|WA.weaken (env':=[(1,pv b1),(3,pv bd5),(13,.pointer (some ⟨bd0,((i.gOp).toNat)*3,none⟩))]) kr<|W3 bd5 bd0 w18 S22
 have W7:∀ (w19:World),Sep w [box b1 (aO i) 48] w19→WA prog 21 39 R K21_0 (fun w_=>Sep w [box b1 (aO i) 48] w_) 5 #[false,true,true,false,false,false,false] [(1,pv b1),(12,iv i.gOp)] w19:=by
  intro w19 S23
  refine WA.all [0,5] kr rfl ⟨?_,?_,trivial⟩
  refine WO.set #[true,true,true,false,false,false,false] kr<|WO.callF 10 52 #[] hb52 kr (rows_any _) ?_
  rintro _ w20 ⟨bd0,rfl,T2⟩
  have S24:Sep w [box bd0 (aw.flatMap dc) 109,box b1 (aO i) 48] w20:=S23.trans T2
  clear T2 S23
  exact WB.mk (S24.erase 0)<|WA.takeOK 3 #[true,true,true,true,false,false,false] kr kr kr kr (fun w_ S_=>OK.index 13 107 3 (some ⟨bd0,0,none⟩) ⟨bd0,0,none⟩ 23 (i.gOp).toNat i.gOp ⟨bd0,((i.gOp).toNat)*3,none⟩ kr kr rfl om oz (by rw[eF,Nat.zero_add])) rfl<|WA.weaken (env':=[(1,pv b1),(13,.pointer (some ⟨bd0,((i.gOp).toNat)*3,none⟩))]) kr<|W5 bd0 w20 S24
  refine WO.set #[false,true,true,false,false,true,false] kr<|WO.new S23 3 kvW25_1 109 kr ?_
  intro bd5 w21 S25
  exact WB.mk (S25.erase 0)<|WA.weaken (env':=[(1,pv b1),(3,pv bd5),(12,iv i.gOp)]) kr<|W6 bd5 w21 S25
 refine J.drawAny (fun w_=>Sep w [box b1 (aO i) 48] w_) S2 7 #[false,false,false,false,false,false,false] Tryz.mixed kr kr kr ?_
 intro w22 S26
 exact WB.mk S26<|WA.take 1 11 (pv b1) #[false,true,false,false,false,false,false] kr kr kr (fun _ _=>kr) kr<|WA.takeOK 2 #[false,true,true,false,false,false,false] kr kr kr kr (fun w_ S_=>OK.ldBox S_ 0 12 3 0 (iv i.gOp) kr rfl kr) rfl<|WA.weaken (env':=[(1,pv b1),(12,iv i.gOp)]) kr<|W7 w22 S26
 refine J.e 5 [.string ByteArray.empty] func21 (hR _ _ ?_)
 exact⟨congrArg Value.string (textI_no fk1).symm,S2.nil⟩

theorem atM_bd (l:List UInt8): -9223372036854775808≤(atM l).getD 0∧(atM l).getD 0≤9223372036854775807:=by
  unfold atM
  split
  · rename_i n h
    have:=Lib.atoiAll_bounds h
    simp only[Option.getD_some];omega
  · simp only[Option.getD_none];omega
theorem index_rows (W:ByteArray): -1≤bQ (fun r:Rwo=>r.gname.toList==W.toList) aw∧bQ (fun r:Rwo=>r.gname.toList==W.toList) aw<23 ∧
    (bQ (fun r:Rwo=>r.gname.toList==W.toList) aw<1→opW (ls W)=0)∧(1≤bQ (fun r:Rwo=>r.gname.toList==W.toList) aw→opW (ls W)=bQ (fun r:Rwo=>r.gname.toList==W.toList) aw):=by
  have hl:=rows_len
  by_cases h:0≤bQ (fun r:Rwo=>r.gname.toList==W.toList) aw
  · obtain ⟨h1,h2,_⟩:=indexF_at aV h
    generalize bQ (fun r:Rwo=>r.gname.toList==W.toList) aw=m at h h1 h2
    rw[beq_ls,beq_iff_eq] at h2
    refine⟨om,om,fun h3=>?_,fun h3=>?_⟩
    · have e:m=0:=by omega
      subst e
      rw[← h2];decide +kernel
    · rw[← h2,(rows_at (op:=m) om).1];exact opW_name om
  · have ha:aw.any (fun r:Rwo=>r.gname.toList==W.toList)=false:=by
      rw[← cR];exact decide_eq_false h
    refine⟨?_,om,fun _=>?_,fun h3=>absurd h3 om⟩
    · rcases indexF_bounds (fun r:Rwo=>r.gname.toList==W.toList) aw with h1 | h1<;>omega
    · refine opN_zero fun j hj h0 e=>?_
      rw[List.any_eq_false] at ha
      have hm:aw.getD j aV ∈ aw:=by rw[List.getD_eq_getElem?_getD,List.getElem?_eq_getElem om];exact List.getElem_mem _
      apply ha _ hm
      rw[beq_ls,beq_iff_eq,← e]
      have:=(rows_at (op:=(j:Int)) om).1
      rw[Int.toNat_natCast] at this;rw[this]
theorem goW_step {f:UInt8→List UInt8→Option Int} {cs:List UInt8} {ws:List (List UInt8)} {i:Ins} {k:Nat} (hk:k<cs.length) :
    goW f (cs.drop k) (ws.drop (k+1)) i=match f (cs.getD k 0) (ws.getD (k+1) []) with
      | none=>none
      | some n=>goW f (cs.drop (k+1)) (ws.drop (k+2)) (setI i ((cs.getD k 0).toNat:Int) n):=by
  rw[List.drop_eq_getElem_cons hk,goW,List.getD_eq_getElem?_getD,List.getElem?_eq_getElem hk,Option.getD_some]
  have e1:(ws.drop (k+1)).headD []=ws.getD (k+1) []:=by
    rw[List.headD_eq_head?_getD,List.head?_drop,List.getD_eq_getElem?_getD]
  have e2:(ws.drop (k+1)).tail=ws.drop (k+2):=by rw[List.tail_drop]
  rw[e1,e2]<;>rfl
def atW (f:UInt8→List UInt8→Option Int) (s:ByteArray) (op:Int) (k:Int) (i:Ins):Prop :=
  ee f (ls s)=goW f ((ls (aS op)).drop k.toNat) ((aM 32 (ls s)).drop (k.toNat+1)) i
theorem atW_start {f:UInt8→List UInt8→Option Int} {s:ByteArray} {op:Int} {w0:ByteArray} (h0:(aA 32 s).getD 0 ByteArray.empty=w0) (h1:opW (ls w0)=op) (h2:1≤op) (h3:((aA 32 s).length:Int)=1+((aS op).size:Int)):atW f s op 0 ⟨op,0,0,0,0⟩:=by
  have hp:=eV 32 s
  have hne:=eT 32 (ls s)
  have e0:ls w0=(aM 32 (ls s)).headD []:=by
    rw[← h0,piecesB_getD 32 s 0 (List.length_pos_iff.2 hne)]
    cases aM 32 (ls s) with
    | nil=>rfl
    | cons a b=>rfl
  rw[e0] at h1
  unfold atW
  rw[readI_yes om (by rw[h1];omega),h1];simp
theorem readI_not {f:UInt8→List UInt8→Option Int} {s:ByteArray} {w0:ByteArray} (h0:(aA 32 s).getD 0 ByteArray.empty=w0) (h:opW (ls w0)<1∨((aA 32 s).length:Int)≠1+((aS (opW (ls w0))).size:Int)):ee f (ls s)=none:=by
  have hp:=eV 32 s
  have hne:=eT 32 (ls s)
  have e0:ls w0=(aM 32 (ls s)).headD []:=by
    rw[← h0,piecesB_getD 32 s 0 (List.length_pos_iff.2 hne)]
    cases aM 32 (ls s) with
    | nil=>rfl
    | cons a b=>rfl
  rw[e0] at h
  unfold ee;rw[if_pos (by rcases h with h | h;left;exact h;right;omega)]
theorem atW_none {f:UInt8→List UInt8→Option Int} {s w:ByteArray} {op k:Int} {i:Ins} (h:atW f s op k i) (h0:0≤k) (hk:k<((aS op).size:Int)) (hw:w=(aA 32 s).getD (k+1).toNat ByteArray.empty) (hp:((aA 32 s).length:Int)=1+((aS op).size:Int))
    (hf:f ((ls (aS op)).getD k.toNat 0) (ls w)=none):ee f (ls s)=none:=by
  have hl:=cm (aS op);have hpl:=eV 32 s
  rw[hw,piecesB_getD 32 s _ om,show(k+1).toNat=k.toNat+1 by omega] at hf
  unfold atW at h
  rw[h,goW_step om,hf]
theorem atW_next {f:UInt8→List UInt8→Option Int} {s w:ByteArray} {op k n:Int} {i:Ins} (h:atW f s op k i) (h0:0≤k) (hk:k<((aS op).size:Int)) (hw:w=(aA 32 s).getD (k+1).toNat ByteArray.empty) (hp:((aA 32 s).length:Int)=1+((aS op).size:Int))
    (hf:f ((ls (aS op)).getD k.toNat 0) (ls w)=some n):atW f s op (k+1) (setI i (bv (aS op) k.toNat) n):=by
  have hl:=cm (aS op);have hpl:=eV 32 s
  rw[hw,piecesB_getD 32 s _ om,show(k+1).toNat=k.toNat+1 by omega] at hf
  unfold atW at h ⊢
  rw[h,goW_step om,hf,fd,show(k+1).toNat=k.toNat+1 by omega]
theorem atW_end {f:UInt8→List UInt8→Option Int} {s:ByteArray} {op k:Int} {i:Ins} (h:atW f s op k i) (hk:k=((aS op).size:Int)):ee f (ls s)=some i:=by
  unfold atW at h
  rw[h,List.drop_eq_nil_of_le (by rw[cm];omega)];rfl
theorem set_val {i:Ins} {c n:Int}:(c=65→setI i c n={ i with gA:=n })∧(c=66→setI i c n={ i with gB:=n })∧(c=67→setI i c n={ i with gC:=n })∧(c≠65→c≠66→c≠67→setI i c n={ i with gK:=n }):=by
  unfold setI
  refine⟨fun h=>by rw[if_pos h],fun h=>by rw[if_neg om,if_pos h],fun h=>by rw[if_neg om,if_neg om,if_pos h],fun h1 h2 h3=>by rw[if_neg h1,if_neg h2,if_neg h3]⟩
theorem byte_dec {F:ByteArray} {k:Nat}:((ls F).getD k 0=75)↔bv F k=75:=(byte_eq (c:=75) dE).symm
theorem trim_size (w p:ByteArray):(⟨(Lib.trimPrefix (ls w) (ls p)).toArray⟩:ByteArray).size≤w.size:=by
  rw[← cm,ls_mk,← cm w]
  unfold Lib.trimPrefix
  split
  · rw[List.length_drop];omega
  · exact Nat.le_refl _
theorem mat_k {F w:ByteArray} {k:Nat} (h:bv F k=75):matW ((ls F).getD k 0) (ls w)=atM (ls w):=by unfold matW;rw[if_pos (byte_dec.2 h)]
theorem mat_r {F w t:ByteArray} {k:Nat} (h:bv F k≠75) (ht:t=⟨(Lib.trimPrefix (ls w) (ls (⟨#[114]⟩:ByteArray))).toArray⟩):matW ((ls F).getD k 0) (ls w)=atM (ls t):=by
  unfold matW;rw[if_neg (fun e=>h (byte_dec.1 e)),ht,ls_mk,show ls (⟨#[114]⟩:ByteArray)=[114] from rfl,trim_eq]
theorem at_some {l:List UInt8} (h:(atM l).isSome=true):atM l=some ((atM l).getD 0):=by
  cases hh:atM l with
  | none=>rw[hh] at h;cases h
  | some n=>rfl
theorem at_none {l:List UInt8} (h:(atM l).isSome=false):atM l=none:=by
  cases hh:atM l with
  | none=>rfl
  | some n=>rw[hh] at h;cases h
theorem atoi_some (s:ByteArray) (w:World) (hs:s.size≤281474976710656) (h:(atM (ls s)).isSome=true):Ret prog 55 #[.string s] w (fun v w'=>v=.tuple #[iv ((atM (ls s)).getD 0),.nilIface]∧Sep w [] w'):=by
  cases hh:Lib.atoiAll (ls s) with
  | ok n =>
    refine Ret.of_calls (Tryz.strconv_Atoi_ok s om n hh w) fun w' hw=>⟨?_,by rcases hw with rfl | ⟨t,rfl⟩;exact .refl _;exact .of_below (Lib.bytesWorld_below _ _ _)⟩
    unfold atM;rw[hh];rfl
  | _=>unfold atM at h;rw[hh] at h;cases h
theorem atoi_none (s:ByteArray) (w:World) (hs:s.size≤281474976710656) (h:(atM (ls s)).isSome=false) (hW:TabW w):Ret prog 55 #[.string s] w (fun v w'=>∃ x N,v=.tuple #[iv x,.iface 168 (pv N)]∧Sep w [] w'):=by
  cases hh:Lib.atoiAll (ls s) with
  | ok n=>unfold atM at h;rw[hh] at h;cases h
  | range =>
    obtain ⟨ev,hv,hev⟩:=hW.2.2.1
    exact Calls.mono (Tryz.strconv_Atoi_range s hs hh ev w hv hev) fun e w' ⟨N,he,_,_,hb⟩=>⟨_,he,_,N,rfl,.of_below hb⟩
  | _ =>
    obtain ⟨ev,hv,hev⟩:=hW.2.1
    exact Calls.mono (Tryz.strconv_Atoi_syntax s hs hh ev w hv hev) fun e w' ⟨N,he,_,_,hb⟩=>⟨_,he,_,N,rfl,.of_below hb⟩
theorem hb50:af prog 50:=fun _ _=>by kernel_rfl
theorem split32_any (s:ByteArray) (w:World) (hs:s.size<4294967281) (hW:TabW w):Ret prog 50 #[.string s,.string ⟨#[32]⟩] w (fun v w'=>∃ b,v=.slice (some ⟨b,0,none⟩) (aA 32 s).length (aA 32 s).length∧Sep w [box b ((aA 32 s).map Value.string) 9] w'):=by
  obtain ⟨m,hm⟩:=hW.2.2.2
  refine Calls.mono (Tryz.strings_Split s ⟨#[32]⟩ m w hs hm (Nat.le_refl 1)) fun e w' ⟨he,hw⟩=>?_
  subst he hw
  rw[splitB_len,splitB_pieces]
  exact⟨_,rfl,_,rfl,Sep.of_alloc _ _ _⟩
theorem hb53:af prog 53:=fun _ _=>by kernel_rfl

theorem parse1_any (r:Rwo) (bx:Nat) (pa:Option Addr) (pn pc:Nat) (l:List ByteArray) (w:World) (hI:Ones Value.string w pa pn l) (hpn:0<pn) (hb:(box bx [.slice pa pn pc] 104).holds w):Ret prog 53 #[.agg (rwoA r),pv bx] w (fun v w'=>v=.bool (r.gname.toList==(l.getD 0 ByteArray.empty).toList)∧Sep w [] w'):=by
 refine Ret.st (N:=10) func53 fun R hR S0=>J.nw 2 [] [] [] S0 2 (rwoC r) 109 fun b1 w1 S1=>J.r 3 [] [] [] ?_
 obtain ⟨p1,hp1,hc1⟩:=hI.at ByteArray.empty 0 om
 refine J.drawStill S1 7 Tryz.mixed kr kr kr ?_
 intro w2 S2
 refine SL.r 4 (pv b1)<|SL.lb S2 0 rfl 5 (.string r.gname)<|SL.ok dE (OK.ldRo S2 hb 6 104 0 (.slice pa pn pc) kr kr)<|SL.ok dE (OK.index 7 104 1 pa p1 pn 0 0 (p1.add 0) kr kr hp1 om om nO)<|SL.ok dE (OK.ldCell 8 9 (p1.add 0) (.string (l.getD 0 ByteArray.empty)) kr kr (S2.cell hc1))<|SL.r 9 (.bool (r.gname.toList==(l.getD 0 ByteArray.empty).toList))<|SL.r 3 (.bool (r.gname.toList==(l.getD 0 ByteArray.empty).toList))<|SL.done<|TL.done kr<|J.e 0 [.bool (r.gname.toList==(l.getD 0 ByteArray.empty).toList)] func53 (hR _ _ ?_)
 exact⟨rfl,S2.nil⟩

theorem hb51:af prog 51:=fun _ _=>by kernel_rfl
def K51_0:=adv 13 [] (bl Tryz.f51)
theorem indexRW1 (la:Option Addr) (len cap:Nat) (l:List Rwo) (g:FuncId) (c1:Value) (q:Rwo→Bool) (w:World) (hI:Recs dc 3 w la len l) (hlen:len≤9223372036854775807) (hbg:af prog g) (hcall:∀ (i:Nat) (w2:World),i<l.length→Sep w [] w2→Ret prog g #[.agg (rwoA (l.getD i aV)),c1] w2 (fun v w3=>v=.bool (q (l.getD i aV))∧Sep w2 [] w3)):Ret prog 51 #[.slice la len cap,.func (.func g) #[] #[c1]] w (fun v w'=>v=iv (bQ q l)∧Sep w [] w'):=by
 refine Ret.st (N:=19) func51 fun R hR S0=>?_
 have L51_1:∀ (mm_:Nat) (i:Int) (w1:World),(0≤i)→(i≤(len:Int))→(∀ j,j<(i).toNat→q (l.getD j aV)=false)→Sep w [] w1→((len:Int)-i).toNat=mm_→J prog 51 19 R K51_0 [(8,iv i),(7,iv (len:Int)),(0,.slice la len cap),(1,.func (.func g) #[] #[c1])] w1:=by
  intro mm1
  induction mm1 using Nat.strongRecOn with
  | _ mm1 ih1 =>
  intro i w1 h0 h1 hq S1 hm1
  refine J.c 5 [] [] [] 9 (i<(len:Int)) (fun fk1=>?_) fun fk1=>?_
  refine J.r 14 [true] [(13,iv i),(12,.slice la len cap),(11,.func (.func g) #[] #[c1]),(5,iv i)] [] ?_
  obtain ⟨p1,hp1,hc1⟩:=hI.at aV (i).toNat om
  refine J.ok (OK.index 14 107 3 la p1 len (i).toNat i (p1.add ((i).toNat*3)) kr kr hp1 om om rfl)<|J.ok (OK.ldCells 15 109 (p1.add ((i).toNat*3)) (rwoC (l.getD (i).toNat aV)) kr kr kr (fun j_ v_ hj_=>S1.cell (hc1 j_ v_ hj_)))<|J.callF 16 g #[.agg (rwoA (l.getD (i).toNat aV)),c1] hbg kr (hcall (i).toNat w1 (by have:=hI.len_eq;omega) S1.nil) ?_
  rintro _ w2 ⟨rfl,T1⟩
  have S2:Sep w [] w2:=S1.trans T1
  refine J.b 1 [] [] [] 16 (q (l.getD (i).toNat aV)) (fun fk2=>?_) fun fk2=>?_
  refine J.e 6 [iv i] func51 (hR _ _ ?_)
  exact⟨by rw[cG,dl aV i.toNat (by have:=hI.len_eq;omega) hq fk2,Int.toNat_of_nonneg h0],S2.nil⟩
  exact J.wi 5 [false] [] [] 18 (i+1)<|J.t 3 (ih1 _ (show((len:Int)-(i+1)).toNat<mm1 from by omega) (i+1) w2 om om (by intro j hj;by_cases e:j=i.toNat;(subst e;exact fk2);exact hq j om) S2 rfl)
  refine J.e 6 [iv (-1)] func51 (hR _ _ ?_)
  exact⟨by rw[cG,dC aV fun j hj=>hq j (by have:=hI.len_eq;omega)],S1.nil⟩
 exact J.t 13 (L51_1 _ 0 w om om (by intro j hj;simp at hj) S0 rfl)
abbrev dr:List Value:=[iv 0,iv 0,iv 0,iv 0,iv 0]
theorem hb19:af prog 19:=fun _ _=>by kernel_rfl
def K19_0:=adv 23 [false] (cJ (adv 30 [false] (bl Tryz.f19)))
theorem mparse_any (s:ByteArray) (w:World) (hs:s.size≤1000000) (hW:TabW w):Ret prog 19 #[.string s] w (fun v w'=>v=.tuple #[.agg #[iv (dH s).gOp,iv (dH s).gA,iv (dH s).gB,iv (dH s).gC,iv (dH s).gK],iv (parIE s)]∧Sep w [] w'):=by
 refine Ret.st (N:=89) func19 fun R hR S0=>?_
 have hrl_:=rows_len
 have hpl_:=eV 32 s
 have hpp_:=List.length_pos_iff.2 (eT 32 (ls s))
 refine J.nw 2 [] [] [] S0 2 dr 48 fun b1 w1 S1=>J.c 9 [] [] [] 14 ((s.size:Int)>100) (fun fk1=>?_) fun fk1=>?_
 refine J.sb 4 [true] [] [] S1 0 rfl dr rfl fun w2 S2=>J.r 2 [] [(3,iv 5)] []<|J.ret Tryz.f19 [.agg #[iv 0,iv 0,iv 0,iv 0,iv 0],iv 5] func19 ⟨⟨⟨b1,0,none⟩,kr,aR (S2.nth 0 rfl) kr⟩,kr,trivial⟩<|hR _ _ ?_
 obtain ⟨e1,e2⟩:=par_long (s:=s) om
 exact⟨by rw[e1,e2];rfl,S2.nil⟩
 refine J.r 5 [false] [(16,.string s)] []<|J.callF 17 50 #[.string s,.string ⟨#[32]⟩] hb50 kr (split32_any s _ om (tabW_sep hW S1)) ?_
 rintro _ w3 ⟨b2,rfl,T1⟩
 have S3:Sep w [box b2 ((aA 32 s).map Value.string) 9,box b1 dr 48] w3:=S1.trans T1
 have:=splitOn_bound 32 (ls s);have:=eV 32 s;have:=cm s
 refine J.nw 0 [] [] [] S3 4 [.slice none 0 0] 104 fun b3 w4 S4=>J.sb 0 [] [] [] S4 0 rfl [.slice (some ⟨b2,0,none⟩) ((aA 32 s).length) ((aA 32 s).length)] rfl fun w5 S5=>J.r 3 [] [] []<|J.callF 18 52 #[] hb52 kr (rows_any _) ?_
 rintro _ w6 ⟨b4,rfl,T2⟩
 have S6:Sep w [box b4 (aw.flatMap dc) 109,box b3 [.slice (some ⟨b2,0,none⟩) ((aA 32 s).length) ((aA 32 s).length)] 104,box b2 ((aA 32 s).map Value.string) 9,box b1 dr 48] w6:=S5.trans T2
 refine J.r 1 [] [(19,.func (.func 53) #[] #[pv b3])] []<|J.callF 20 51 #[.slice (some ⟨b4,0,none⟩) 23 23,.func (.func 53) #[] #[pv b3]] hb51 kr (indexRW1 (some ⟨b4,0,none⟩) 23 23 aw 53 (pv b3) (fun r:Rwo=>r.gname.toList==((aA 32 s).getD 0 ByteArray.empty).toList) _ ((show Recs dc 3 w6 (some ⟨b4,0,none⟩) 23 (aw:List Rwo) from ⟨rfl,fun _=>rfl,dE,bX (S6.nth 0 rfl)⟩)) oz hb53 (fun i_ w_ hi_ S_=>parse1_any _ b3 (some ⟨b2,0,none⟩) ((aA 32 s).length) ((aA 32 s).length) (aA 32 s) w_ ((box_ones (S6.nth 2 rfl) ((aA 32 s).length) rfl).sep S_) om (dD (S6.nth 1 rfl) S_))) ?_
 rintro _ w7 ⟨rfl,T3⟩
 have S7:Sep w [box b4 (aw.flatMap dc) 109,box b3 [.slice (some ⟨b2,0,none⟩) ((aA 32 s).length) ((aA 32 s).length)] 104,box b2 ((aA 32 s).map Value.string) 9,box b1 dr 48] w7:=S6.trans T3
 obtain ⟨op,hop⟩:∃ x:Int,x=bQ (fun r:Rwo=>r.gname.toList==((aA 32 s).getD 0 ByteArray.empty).toList) aw:=⟨_,rfl⟩
 refine J.head (iv op) (congrArg (Value.int .i64) hop.symm) ?_
 obtain ⟨hix1,hix2,hix3,hix4⟩:=index_rows ((aA 32 s).getD 0 ByteArray.empty)
 rw[← hop] at hix1 hix2 hix3 hix4
 have hop2:=hix4
 refine J.r 4 [] [(5,iv op)] [] ?_
 by_cases fk2:op<1
 refine J.drawPlan (fun w_=>Sep w [box b4 (aw.flatMap dc) 109,box b3 [.slice (some ⟨b2,0,none⟩) ((aA 32 s).length) ((aA 32 s).length)] 104,box b2 ((aA 32 s).map Value.string) 9,box b1 dr 48] w_) [(0,true),(1,true),(2,true),(3,true),(4,true),(5,true),(6,true),(7,true),(8,true),(9,true),(10,true),(11,true),(12,true),(13,true)] S7 Tryz.mixed kr (aE (T:=[(0,some 21,32),(1,some 22,2097152),(2,some 23,4194304),(4,some 24,8388624),(12,some 25,25165824),(4,some 26,8388608),(4,some 27,8388640),(100,some 28,209715200),(132,some 29,276824064),(260,some 30,545259520),(516,some 31,1082130432),(1028,some 32,2155872256),(2068,some 33,4336910336),(4100,some 34,8598323200)]) kr kr) ?_
 intro w8 S8
 refine PB.mk S8<|PL.take 0 21 (iv op) (fun _ _=>kr)<|PL.take 1 22 (.bool (decide (op<1))) (fun _ _=>kr)<|PL.head (.bool true) (congrArg Value.bool (decide_eq_true fk2))<|PL.take 2 23 (.bool true) (fun _ _=>kr)<|PL.takePass 3 (some 24) kr<|PL.takePass 4 (some 25) kr<|PL.takePass 5 (some 26) kr<|PL.takePass 6 (some 27) kr<|PL.takePass 7 (some 28) kr<|PL.takePass 8 (some 29) kr ?_
 refine PL.takePass 9 (some 30) kr<|PL.takePass 10 (some 31) kr<|PL.takePass 11 (some 32) kr<|PL.takePass 12 (some 33) kr<|PL.take 13 34 (.bool true) (fun _ _=>kr)<|PL.done<|J.sb 4 [true] [] [] S8 3 rfl dr rfl fun w9 S9=>J.r 2 [] [(3,iv 3)] []<|J.ret Tryz.f19 [.agg #[iv 0,iv 0,iv 0,iv 0,iv 0],iv 3] func19 ⟨⟨⟨b1,0,none⟩,kr,aR (S9.nth 3 rfl) kr⟩,kr,trivial⟩<|hR _ _ ?_
 obtain ⟨e1,e2⟩:=mat_none (s:=s) om (readI_not rfl (by first | exact .inl om | exact .inr (by rw[hop2 om,← (rows_at (op:=op) om).2.1];omega)))
 exact⟨by rw[e1,e2];rfl,S9.nil⟩
 have hrz0:=rows_size (op:=op) om
 refine J.drawPlan (fun w_=>Sep w [box b4 (aw.flatMap dc) 109,box b3 [.slice (some ⟨b2,0,none⟩) ((aA 32 s).length) ((aA 32 s).length)] 104,box b2 ((aA 32 s).map Value.string) 9,box b1 dr 48] w_) [(0,true),(1,true),(2,true),(3,true),(4,true),(6,true),(5,false),(7,true),(8,true),(9,false),(10,true),(11,true),(12,true),(13,true)] S7 Tryz.mixed kr (aE (T:=[(0,some 21,32),(1,some 22,2097152),(2,some 23,4194304),(4,some 24,8388624),(12,some 25,25165824),(4,some 26,8388608),(4,some 27,8388640),(100,some 28,209715200),(132,some 29,276824064),(260,some 30,545259520),(516,some 31,1082130432),(1028,some 32,2155872256),(2068,some 33,4336910336),(4100,some 34,8598323200)]) kr kr) ?_
 intro w10 S10
 refine PB.mk S10<|PL.take 0 21 (iv op) (fun _ _=>kr)<|PL.take 1 22 (.bool (decide (op<1))) (fun _ _=>kr)<|PL.head (.bool false) (congrArg Value.bool (decide_eq_false fk2))<|PL.take 2 23 (.bool false) (fun _ _=>kr)<|PL.takeOK 3 (fun w_ S_=>OK.ldBox S_ 1 24 104 0 (.slice (some ⟨b2,0,none⟩) ((aA 32 s).length) ((aA 32 s).length)) kr rfl kr) rfl<|PL.take 4 25 (iv ((aA 32 s).length:Int)) (fun _ _=>kr)<|PL.take 6 27 (iv op) (fun _ _=>kr)<|PL.callF 26 52 #[] hb52 kr (rows_any _) ?_
 rintro _ w11 ⟨b5,rfl,T4⟩
 have S11:Sep w [box b5 (aw.flatMap dc) 109,box b4 (aw.flatMap dc) 109,box b3 [.slice (some ⟨b2,0,none⟩) ((aA 32 s).length) ((aA 32 s).length)] 104,box b2 ((aA 32 s).map Value.string) 9,box b1 dr 48] w11:=S10.trans T4
 clear T4 S10
 refine PB.mk (S11.erase 0)<|PL.takeOK 7 (fun w_ S_=>OK.index 28 107 3 (some ⟨b5,0,none⟩) ⟨b5,0,none⟩ 23 (op).toNat op ⟨b5,((op).toNat)*3,none⟩ kr kr rfl om oz (by rw[eF,Nat.zero_add])) rfl<|PL.take 8 29 (.pointer (some ⟨b5,((op).toNat)*3+1,none⟩)) (fun _ _=>kr)<|PL.ok (OK.ldCell 30 9 ⟨b5,((op).toNat)*3+1,none⟩ (.string ((aw.getD ((op).toNat) aV).gfields)) kr kr (box_rec_one (s:=3) (S11.nth 0 rfl) (fun _=>rfl) dE aV ((op).toNat) oz 1 _ rfl))<|PB.mk (S11.erase 0)<|PL.take 10 31 (iv (((aw.getD ((op).toNat) aV).gfields).size:Int)) (fun _ _=>kr)<|PL.take 11 32 (iv (IntKind.wrap .i64 (1+(((aw.getD ((op).toNat) aV).gfields).size:Int)))) (fun _ _=>kr)<|PL.head (iv (1+(((aw.getD ((op).toNat) aV).gfields).size:Int))) (congrArg (Value.int .i64) (IntWalk.i64_in _ om))<|PL.take 12 33 (.bool (((aA 32 s).length:Int) != (1+(((aw.getD ((op).toNat) aV).gfields).size:Int)))) (fun _ _=>kr)<|PL.take 13 34 (.bool (((aA 32 s).length:Int) != (1+(((aw.getD ((op).toNat) aV).gfields).size:Int)))) (fun _ _=>kr)<|PL.done ?_
 refine J.cn 0 [] [] [] 34 (((aA 32 s).length:Int)=(1+(((aw.getD ((op).toNat) aV).gfields).size:Int))) (fun fk3=>?_) fun fk3=>?_
 refine J.nw 6 [false] [(37,.agg #[iv op,iv 0,iv 0,iv 0,iv 0])] [] S11 6 dr 48 fun b6 w12 S12=>J.sb 0 [] [] [] S12 0 rfl [iv op,iv 0,iv 0,iv 0,iv 0] rfl fun w13 S13=>J.r 4 [] [] []<|J.callF 38 52 #[] hb52 kr (rows_any _) ?_
 rintro _ w14 ⟨b7,rfl,T5⟩
 have S14:Sep w [box b7 (aw.flatMap dc) 109,box b6 [iv op,iv 0,iv 0,iv 0,iv 0] 48,box b5 (aw.flatMap dc) 109,box b4 (aw.flatMap dc) 109,box b3 [.slice (some ⟨b2,0,none⟩) ((aA 32 s).length) ((aA 32 s).length)] 104,box b2 ((aA 32 s).map Value.string) 9,box b1 dr 48] w14:=S13.trans T5
 refine J.r 1 [] [(39,iv op)] []<|J.ok (OK.index 40 107 3 (some ⟨b7,0,none⟩) ⟨b7,0,none⟩ 23 (op).toNat op ⟨b7,((op).toNat)*3,none⟩ kr kr rfl om oz (by rw[eF,Nat.zero_add]))<|J.r 1 [] [(41,.pointer (some ⟨b7,((op).toNat)*3+1,none⟩))] []<|J.ok (OK.ldCell 42 9 ⟨b7,((op).toNat)*3+1,none⟩ (.string ((aw.getD ((op).toNat) aV).gfields)) kr kr (box_rec_one (s:=3) (S14.nth 0 rfl) (fun _=>rfl) dE aV ((op).toNat) oz 1 _ rfl))<|J.strBytes S14 43 9 52 5 ((aw.getD ((op).toNat) aV).gfields) kr kr ?_
 intro b8 cq1 w15 S15
 have L19_1:∀ (mm_:Nat) (a:Int) (b:Int) (c:Int) (q:Int) (k:Int) (w16:World),(0≤k)→(k≤(((aw.getD ((op).toNat) aV).gfields).size:Int))→((-9223372036854775808≤a∧a≤9223372036854775807)∧(-9223372036854775808≤b∧b≤9223372036854775807)∧(-9223372036854775808≤c∧c≤9223372036854775807)∧(-9223372036854775808≤q∧q≤9223372036854775807))→(atW matW s op k (⟨op,a,b,c,q⟩:Ins))→Sep w [rows8 b8 ((aw.getD ((op).toNat) aV).gfields),box b7 (aw.flatMap dc) 109,box b6 [iv op,iv a,iv b,iv c,iv q] 48,box b5 (aw.flatMap dc) 109,box b4 (aw.flatMap dc) 109,box b3 [.slice (some ⟨b2,0,none⟩) ((aA 32 s).length) ((aA 32 s).length)] 104,box b2 ((aA 32 s).map Value.string) 9,box b1 dr 48] w16→((((aw.getD ((op).toNat) aV).gfields).size:Int)-k).toNat=mm_→J prog 19 89 R K19_0 [(45,iv k),(44,iv (((aw.getD ((op).toNat) aV).gfields).size:Int)),(43,.slice (some ⟨b8,0,none⟩) (((aw.getD ((op).toNat) aV).gfields).size) cq1),(6,pv b6),(4,pv b3),(2,pv b1),(0,.string s)] w16:=by
  intro mm1
  induction mm1 using Nat.strongRecOn with
  | _ mm1 ih1 =>
  intro a b c q k w16 h0 h1 hb hG S16 hm1
  have hrw:=rows_at (op:=op) om
  have hrz:=rows_size (op:=op) om
  refine J.c 5 [] [] [] 46 (k<(((aw.getD ((op).toNat) aV).gfields).size:Int)) (fun fk4=>?_) fun fk4=>?_
  refine J.r 7 [true] [(47,iv k)] [] ?_
  obtain ⟨p1,hp1,hc1⟩:=rows8_at (S16.nth 0 rfl) (k).toNat oz
  have:=ec ((aw.getD ((op).toNat) aV).gfields) (k).toNat
  refine J.ok (OK.index 48 52 1 (some ⟨b8,0,none⟩) p1 (((aw.getD ((op).toNat) aV).gfields).size) (k).toNat k (p1.add (k).toNat) kr kr hp1 om oz nO)<|J.ok (OK.ldCell 49 5 (p1.add (k).toNat) (.int .u8 (bv ((aw.getD ((op).toNat) aV).gfields) (k).toNat)) kr kr hc1)<|J.lb 5 [] [(8,.int .u8 (bv ((aw.getD ((op).toNat) aV).gfields) (k).toNat)),(7,iv k)] [] S16 5 rfl 50 (.slice (some ⟨b2,0,none⟩) ((aA 32 s).length) ((aA 32 s).length))<|J.wi 2 [] [] [] 52 (k+1)<|J.ok (OK.index 53 104 1 (some ⟨b2,0,none⟩) ⟨b2,0,none⟩ ((aA 32 s).length) (k+1).toNat (k+1) ⟨b2,(k+1).toNat,none⟩ kr kr rfl om oz (by rw[Nat.mul_one,eF,Nat.zero_add]))<|J.ok (OK.ldArr Value.string S16 6 54 9 ((k+1).toNat) ByteArray.empty kr kr rfl oz)<|J.cn 8 [] [(9,.string ((aA 32 s).getD ((k+1).toNat) ByteArray.empty))] [] 56 ((bv ((aw.getD ((op).toNat) aV).gfields) (k).toNat)=75) (fun fk5=>?_) fun fk5=>?_
  refine J.r 5 [false] [(60,.string ((aA 32 s).getD ((k+1).toNat) ByteArray.empty))] [] ?_
  rcases Bool.eq_false_or_eq_true ((atM (ls ((aA 32 s).getD ((k+1).toNat) ByteArray.empty))).isSome) with fk6 | fk6
  have hps_:=piece_size 32 s (k+1).toNat
  have:=atM_bd (ls ((aA 32 s).getD ((k+1).toNat) ByteArray.empty))
  refine J.c0 0 [] [] [] S16 61 hb55 (atoi_some ((aA 32 s).getD ((k+1).toNat) ByteArray.empty) _ om fk6) fun w17 S17=>J.c 24 [false] [(67,.int .u8 (bv ((aw.getD ((op).toNat) aV).gfields) (k).toNat)),(10,iv ((atM (ls ((aA 32 s).getD ((k+1).toNat) ByteArray.empty))).getD 0))] [] 70 ((bv ((aw.getD ((op).toNat) aV).gfields) (k).toNat)=65) (fun fk7=>?_) fun fk7=>?_
  exact J.sb 4 [true] [] [] S17 2 rfl [iv op,iv ((atM (ls ((aA 32 s).getD ((k+1).toNat) ByteArray.empty))).getD 0),iv b,iv c,iv q] rfl fun w18 S18=>J.wi 5 [] [] [] 82 (k+1)<|J.t 3 (ih1 _ (show((((aw.getD ((op).toNat) aV).gfields).size:Int)-(k+1)).toNat<mm1 from by omega) ((atM (ls ((aA 32 s).getD ((k+1).toNat) ByteArray.empty))).getD 0) b c q (k+1) w18 om om om (by have h_:=atW_next hG h0 (by rw[← hrw.2.1];omega) (w:=((aA 32 s).getD (k+1).toNat ByteArray.empty)) rfl (by rw[← hrw.2.1];omega) (by rw[← hrw.2.1];exact(mat_k om).trans (at_some fk6));rw[← hrw.2.1,set_val.1 om] at h_;exact h_) S18 rfl)
  refine J.c 6 [false] [] [] 74 ((bv ((aw.getD ((op).toNat) aV).gfields) (k).toNat)=66) (fun fk8=>?_) fun fk8=>?_
  exact J.sb 4 [true] [] [] S17 2 rfl [iv op,iv a,iv ((atM (ls ((aA 32 s).getD ((k+1).toNat) ByteArray.empty))).getD 0),iv c,iv q] rfl fun w19 S19=>J.wi 5 [] [] [] 82 (k+1)<|J.t 3 (ih1 _ (show((((aw.getD ((op).toNat) aV).gfields).size:Int)-(k+1)).toNat<mm1 from by omega) a ((atM (ls ((aA 32 s).getD ((k+1).toNat) ByteArray.empty))).getD 0) c q (k+1) w19 om om om (by have h_:=atW_next hG h0 (by rw[← hrw.2.1];omega) (w:=((aA 32 s).getD (k+1).toNat ByteArray.empty)) rfl (by rw[← hrw.2.1];omega) (by rw[← hrw.2.1];exact(mat_k om).trans (at_some fk6));rw[← hrw.2.1,set_val.2.1 om] at h_;exact h_) S19 rfl)
  refine J.c 6 [false] [] [] 78 ((bv ((aw.getD ((op).toNat) aV).gfields) (k).toNat)=67) (fun fk9=>?_) fun fk9=>?_
  exact J.sb 4 [true] [] [] S17 2 rfl [iv op,iv a,iv b,iv ((atM (ls ((aA 32 s).getD ((k+1).toNat) ByteArray.empty))).getD 0),iv q] rfl fun w20 S20=>J.wi 5 [] [] [] 82 (k+1)<|J.t 3 (ih1 _ (show((((aw.getD ((op).toNat) aV).gfields).size:Int)-(k+1)).toNat<mm1 from by omega) a b ((atM (ls ((aA 32 s).getD ((k+1).toNat) ByteArray.empty))).getD 0) q (k+1) w20 om om om (by have h_:=atW_next hG h0 (by rw[← hrw.2.1];omega) (w:=((aA 32 s).getD (k+1).toNat ByteArray.empty)) rfl (by rw[← hrw.2.1];omega) (by rw[← hrw.2.1];exact(mat_k om).trans (at_some fk6));rw[← hrw.2.1,set_val.2.2.1 om] at h_;exact h_) S20 rfl)
  exact J.sb 4 [false] [] [] S17 2 rfl [iv op,iv a,iv b,iv c,iv ((atM (ls ((aA 32 s).getD ((k+1).toNat) ByteArray.empty))).getD 0)] rfl fun w21 S21=>J.wi 5 [] [] [] 82 (k+1)<|J.t 3 (ih1 _ (show((((aw.getD ((op).toNat) aV).gfields).size:Int)-(k+1)).toNat<mm1 from by omega) a b c ((atM (ls ((aA 32 s).getD ((k+1).toNat) ByteArray.empty))).getD 0) (k+1) w21 om om om (by have h_:=atW_next hG h0 (by rw[← hrw.2.1];omega) (w:=((aA 32 s).getD (k+1).toNat ByteArray.empty)) rfl (by rw[← hrw.2.1];omega) (by rw[← hrw.2.1];exact(mat_k om).trans (at_some fk6));rw[← hrw.2.1,set_val.2.2.2 om om om] at h_;exact h_) S21 rfl)
  have hps_:=piece_size 32 s (k+1).toNat
  refine J.cf 0 [] [] [] 61 hb55 (atoi_none ((aA 32 s).getD ((k+1).toNat) ByteArray.empty) _ om fk6 (tabW_sep hW S16)) ?_
  rintro _ w22 ⟨ex1,en1,rfl,T6⟩
  have S22:Sep w [rows8 b8 ((aw.getD ((op).toNat) aV).gfields),box b7 (aw.flatMap dc) 109,box b6 [iv op,iv a,iv b,iv c,iv q] 48,box b5 (aw.flatMap dc) 109,box b4 (aw.flatMap dc) 109,box b3 [.slice (some ⟨b2,0,none⟩) ((aA 32 s).length) ((aA 32 s).length)] 104,box b2 ((aA 32 s).map Value.string) 9,box b1 dr 48] w22:=S16.trans T6
  refine J.sb 16 [true] [] [] S22 7 rfl dr rfl fun w23 S23=>J.r 2 [] [(3,iv 3)] []<|J.ret Tryz.f19 [.agg #[iv 0,iv 0,iv 0,iv 0,iv 0],iv 3] func19 ⟨⟨⟨b1,0,none⟩,kr,aR (S23.nth 7 rfl) kr⟩,kr,trivial⟩<|hR _ _ ?_
  obtain ⟨e1,e2⟩:=mat_none (s:=s) om (atW_none hG h0 (by rw[← hrw.2.1];omega) rfl (by rw[← hrw.2.1];omega) (by rw[← hrw.2.1];exact(mat_k om).trans (at_none fk6)))
  exact⟨by rw[e1,e2];rfl,S23.nil⟩
  refine J.c0 3 [true] [] [] S16 58 hb54 (trimprefix_any ((aA 32 s).getD ((k+1).toNat) ByteArray.empty) (⟨#[114]⟩:ByteArray) _) fun w24 S24=>J.r 5 [] [(60,.string (⟨(Lib.trimPrefix (ls ((aA 32 s).getD ((k+1).toNat) ByteArray.empty)) (ls (⟨#[114]⟩:ByteArray))).toArray⟩:ByteArray))] [9] ?_
  rcases Bool.eq_false_or_eq_true ((atM (ls (⟨(Lib.trimPrefix (ls ((aA 32 s).getD ((k+1).toNat) ByteArray.empty)) (ls (⟨#[114]⟩:ByteArray))).toArray⟩:ByteArray))).isSome) with fk10 | fk10
  have hps_:=piece_size 32 s (k+1).toNat
  have hts_:=trim_size ((aA 32 s).getD (k+1).toNat ByteArray.empty) (⟨#[114]⟩:ByteArray)
  have:=atM_bd (ls (⟨(Lib.trimPrefix (ls ((aA 32 s).getD ((k+1).toNat) ByteArray.empty)) (ls (⟨#[114]⟩:ByteArray))).toArray⟩:ByteArray))
  refine J.c0 0 [] [] [] S24 61 hb55 (atoi_some (⟨(Lib.trimPrefix (ls ((aA 32 s).getD ((k+1).toNat) ByteArray.empty)) (ls (⟨#[114]⟩:ByteArray))).toArray⟩:ByteArray) _ om fk10) fun w25 S25=>J.c 24 [false] [(67,.int .u8 (bv ((aw.getD ((op).toNat) aV).gfields) (k).toNat)),(10,iv ((atM (ls (⟨(Lib.trimPrefix (ls ((aA 32 s).getD ((k+1).toNat) ByteArray.empty)) (ls (⟨#[114]⟩:ByteArray))).toArray⟩:ByteArray))).getD 0))] [] 70 ((bv ((aw.getD ((op).toNat) aV).gfields) (k).toNat)=65) (fun fk11=>?_) fun fk11=>?_
  exact J.sb 4 [true] [] [] S25 2 rfl [iv op,iv ((atM (ls (⟨(Lib.trimPrefix (ls ((aA 32 s).getD ((k+1).toNat) ByteArray.empty)) (ls (⟨#[114]⟩:ByteArray))).toArray⟩:ByteArray))).getD 0),iv b,iv c,iv q] rfl fun w26 S26=>J.wi 5 [] [] [] 82 (k+1)<|J.t 3 (ih1 _ (show((((aw.getD ((op).toNat) aV).gfields).size:Int)-(k+1)).toNat<mm1 from by omega) ((atM (ls (⟨(Lib.trimPrefix (ls ((aA 32 s).getD ((k+1).toNat) ByteArray.empty)) (ls (⟨#[114]⟩:ByteArray))).toArray⟩:ByteArray))).getD 0) b c q (k+1) w26 om om om (by have h_:=atW_next hG h0 (by rw[← hrw.2.1];omega) (w:=((aA 32 s).getD (k+1).toNat ByteArray.empty)) rfl (by rw[← hrw.2.1];omega) (by rw[← hrw.2.1];exact(mat_r om rfl).trans (at_some fk10));rw[← hrw.2.1,set_val.1 om] at h_;exact h_) S26 rfl)
  refine J.c 6 [false] [] [] 74 ((bv ((aw.getD ((op).toNat) aV).gfields) (k).toNat)=66) (fun fk12=>?_) fun fk12=>?_
  exact J.sb 4 [true] [] [] S25 2 rfl [iv op,iv a,iv ((atM (ls (⟨(Lib.trimPrefix (ls ((aA 32 s).getD ((k+1).toNat) ByteArray.empty)) (ls (⟨#[114]⟩:ByteArray))).toArray⟩:ByteArray))).getD 0),iv c,iv q] rfl fun w27 S27=>J.wi 5 [] [] [] 82 (k+1)<|J.t 3 (ih1 _ (show((((aw.getD ((op).toNat) aV).gfields).size:Int)-(k+1)).toNat<mm1 from by omega) a ((atM (ls (⟨(Lib.trimPrefix (ls ((aA 32 s).getD ((k+1).toNat) ByteArray.empty)) (ls (⟨#[114]⟩:ByteArray))).toArray⟩:ByteArray))).getD 0) c q (k+1) w27 om om om (by have h_:=atW_next hG h0 (by rw[← hrw.2.1];omega) (w:=((aA 32 s).getD (k+1).toNat ByteArray.empty)) rfl (by rw[← hrw.2.1];omega) (by rw[← hrw.2.1];exact(mat_r om rfl).trans (at_some fk10));rw[← hrw.2.1,set_val.2.1 om] at h_;exact h_) S27 rfl)
  refine J.c 6 [false] [] [] 78 ((bv ((aw.getD ((op).toNat) aV).gfields) (k).toNat)=67) (fun fk13=>?_) fun fk13=>?_
  exact J.sb 4 [true] [] [] S25 2 rfl [iv op,iv a,iv b,iv ((atM (ls (⟨(Lib.trimPrefix (ls ((aA 32 s).getD ((k+1).toNat) ByteArray.empty)) (ls (⟨#[114]⟩:ByteArray))).toArray⟩:ByteArray))).getD 0),iv q] rfl fun w28 S28=>J.wi 5 [] [] [] 82 (k+1)<|J.t 3 (ih1 _ (show((((aw.getD ((op).toNat) aV).gfields).size:Int)-(k+1)).toNat<mm1 from by omega) a b ((atM (ls (⟨(Lib.trimPrefix (ls ((aA 32 s).getD ((k+1).toNat) ByteArray.empty)) (ls (⟨#[114]⟩:ByteArray))).toArray⟩:ByteArray))).getD 0) q (k+1) w28 om om om (by have h_:=atW_next hG h0 (by rw[← hrw.2.1];omega) (w:=((aA 32 s).getD (k+1).toNat ByteArray.empty)) rfl (by rw[← hrw.2.1];omega) (by rw[← hrw.2.1];exact(mat_r om rfl).trans (at_some fk10));rw[← hrw.2.1,set_val.2.2.1 om] at h_;exact h_) S28 rfl)
  exact J.sb 4 [false] [] [] S25 2 rfl [iv op,iv a,iv b,iv c,iv ((atM (ls (⟨(Lib.trimPrefix (ls ((aA 32 s).getD ((k+1).toNat) ByteArray.empty)) (ls (⟨#[114]⟩:ByteArray))).toArray⟩:ByteArray))).getD 0)] rfl fun w29 S29=>J.wi 5 [] [] [] 82 (k+1)<|J.t 3 (ih1 _ (show((((aw.getD ((op).toNat) aV).gfields).size:Int)-(k+1)).toNat<mm1 from by omega) a b c ((atM (ls (⟨(Lib.trimPrefix (ls ((aA 32 s).getD ((k+1).toNat) ByteArray.empty)) (ls (⟨#[114]⟩:ByteArray))).toArray⟩:ByteArray))).getD 0) (k+1) w29 om om om (by have h_:=atW_next hG h0 (by rw[← hrw.2.1];omega) (w:=((aA 32 s).getD (k+1).toNat ByteArray.empty)) rfl (by rw[← hrw.2.1];omega) (by rw[← hrw.2.1];exact(mat_r om rfl).trans (at_some fk10));rw[← hrw.2.1,set_val.2.2.2 om om om] at h_;exact h_) S29 rfl)
  have hps_:=piece_size 32 s (k+1).toNat
  have hts_:=trim_size ((aA 32 s).getD (k+1).toNat ByteArray.empty) (⟨#[114]⟩:ByteArray)
  refine J.cf 0 [] [] [] 61 hb55 (atoi_none (⟨(Lib.trimPrefix (ls ((aA 32 s).getD ((k+1).toNat) ByteArray.empty)) (ls (⟨#[114]⟩:ByteArray))).toArray⟩:ByteArray) _ om fk10 (tabW_sep hW S24)) ?_
  rintro _ w30 ⟨ex2,en2,rfl,T7⟩
  have S30:Sep w [rows8 b8 ((aw.getD ((op).toNat) aV).gfields),box b7 (aw.flatMap dc) 109,box b6 [iv op,iv a,iv b,iv c,iv q] 48,box b5 (aw.flatMap dc) 109,box b4 (aw.flatMap dc) 109,box b3 [.slice (some ⟨b2,0,none⟩) ((aA 32 s).length) ((aA 32 s).length)] 104,box b2 ((aA 32 s).map Value.string) 9,box b1 dr 48] w30:=S24.trans T7
  refine J.sb 16 [true] [] [] S30 7 rfl dr rfl fun w31 S31=>J.r 2 [] [(3,iv 3)] []<|J.ret Tryz.f19 [.agg #[iv 0,iv 0,iv 0,iv 0,iv 0],iv 3] func19 ⟨⟨⟨b1,0,none⟩,kr,aR (S31.nth 7 rfl) kr⟩,kr,trivial⟩<|hR _ _ ?_
  obtain ⟨e1,e2⟩:=mat_none (s:=s) om (atW_none hG h0 (by rw[← hrw.2.1];omega) rfl (by rw[← hrw.2.1];omega) (by rw[← hrw.2.1];exact(mat_r om rfl).trans (at_none fk10)))
  exact⟨by rw[e1,e2];rfl,S31.nil⟩
  refine J.lb 5 [false] [] [] S16 2 rfl 83 (.agg #[iv op,iv a,iv b,iv c,iv q])<|J.c0 0 [] [] [] S16 84 hb21 (mtext_any (⟨op,a,b,c,q⟩:Ins) _ (show insQ _ (⟨op,a,b,c,q⟩:Ins) from ⟨(show(-9223372036854775808)≤(op:Int)∧(op:Int)≤9223372036854775807 from by omega),(show(-9223372036854775808)≤(a:Int)∧(a:Int)≤9223372036854775807 from by omega),(show(-9223372036854775808)≤(b:Int)∧(b:Int)≤9223372036854775807 from by omega),(show(-9223372036854775808)≤(c:Int)∧(c:Int)≤9223372036854775807 from by omega),(show(-9223372036854775808)≤(q:Int)∧(q:Int)≤9223372036854775807 from by omega),trivial⟩) (tabW_sep hW S16)) fun w32 S32=>J.b 3 [] [] [] 86 (!((textI (⟨op,a,b,c,q⟩:Ins)).toList==s.toList)) (fun fk14=>?_) fun fk14=>?_
  refine J.sb 4 [true] [] [] S32 7 rfl dr rfl fun w33 S33=>J.r 2 [] [(3,iv 3)] []<|J.ret Tryz.f19 [.agg #[iv 0,iv 0,iv 0,iv 0,iv 0],iv 3] func19 ⟨⟨⟨b1,0,none⟩,kr,aR (S33.nth 7 rfl) kr⟩,kr,trivial⟩<|hR _ _ ?_
  obtain ⟨e1,e2⟩:=mat_other (s:=s) om (atW_end hG (by rw[← hrw.2.1];omega)) (by simpa using fk14)
  exact⟨by rw[e1,e2];rfl,S33.nil⟩
  refine J.lb 4 [false] [] [] S32 2 rfl 88 (.agg #[iv op,iv a,iv b,iv c,iv q])<|J.sb 0 [] [] [] S32 7 rfl [iv op,iv a,iv b,iv c,iv q] rfl fun w34 S34=>J.r 2 [] [(3,iv 0)] []<|J.ret Tryz.f19 [.agg #[iv op,iv a,iv b,iv c,iv q],iv 0] func19 ⟨⟨⟨b1,0,none⟩,kr,aR (S34.nth 7 rfl) kr⟩,kr,trivial⟩<|hR _ _ ?_
  obtain ⟨e1,e2⟩:=mat_same (s:=s) om (atW_end hG (by rw[← hrw.2.1];omega)) (by simpa using fk14)
  exact⟨by rw[e1,e2];rfl,S34.nil⟩
 exact J.t 5 (L19_1 _ 0 0 0 0 0 w15 om (by have hrz:=rows_size (op:=op) om;omega) om (atW_start rfl (hop2 om) om (by rw[← (rows_at (op:=op) om).2.1];omega)) S15 rfl)
 refine J.sb 4 [true] [] [] S11 4 rfl dr rfl fun w35 S35=>J.r 2 [] [(3,iv 3)] []<|J.ret Tryz.f19 [.agg #[iv 0,iv 0,iv 0,iv 0,iv 0],iv 3] func19 ⟨⟨⟨b1,0,none⟩,kr,aR (S35.nth 4 rfl) kr⟩,kr,trivial⟩<|hR _ _ ?_
 obtain ⟨e1,e2⟩:=mat_none (s:=s) om (readI_not rfl (by first | exact .inl om | exact .inr (by rw[hop2 om,← (rows_at (op:=op) om).2.1];omega)))
 exact⟨by rw[e1,e2];rfl,S35.nil⟩
end
end Go.Proofs.YtaoolgcddapegaaGreatDoor
