/- Walks of functions of this seat, printed by a program over the engine. Conditions: as each theorem says. -/
import Derived.Test.YtaoolgcddapegaaGreatDoorZsW28
import Derived.Test.YtaoolgcddapegaaGreatDoorZsX27
import Derived.Test.YtaoolgcddapegaaGreatDoorZsF39
namespace Go.Proofs.YtaoolgcddapegaaGreatDoor
noncomputable section
open Go.Eng Go.RowKit
set_option linter.unusedSimpArgs false
set_option linter.unusedVariables false
set_option maxRecDepth 20000
set_option maxHeartbeats 20000000
abbrev kvW31_1 : List Value := [iv 0, iv 0, iv 0, iv 0, iv 0]
theorem hb19 : HasBody Tryz.prog 19 := fun _ _ => by kernel_rfl
def K19_0 := adv 23 [false] (rRest (adv 30 [false] (bodyOf Tryz.f19)))
theorem mparse_any (s : ByteArray) (w : World) (hs : s.size ≤ 1000000) (hW : TabW w) : Ret Tryz.prog 19 #[.string s] w (fun v w' => v = .tuple #[.agg #[iv (parI s).gOp, iv (parI s).gA, iv (parI s).gB, iv (parI s).gC, iv (parI s).gK], iv (parIE s)] ∧ Sep w [] w') := by
 refine Ret.st (N := 89) Tryz.func19 fun R hR S0 => ?_
 have hrl_ := rows_len
 have hpl_ := pieces_len 32 s
 have hpp_ := List.length_pos_iff.2 (splitOn_ne 32 (ls s))
 refine J.nw 2 [] [] [] S0 2 kvW31_1 48 fun b1 w1 S1 => ?_
 refine J.c 9 [] [] [] 14 ((s.size : Int) > 100) (fun fk1 => ?_) fun fk1 => ?_
 ·skip
  refine J.sb 4 [true] [] [] S1 0 rfl kvW31_1 rfl fun w2 S2 => ?_
  refine J.r 2 [] [(3, iv 5)] [] ?_
  refine J.ret Tryz.f19 [.agg #[iv 0, iv 0, iv 0, iv 0, iv 0], iv 5] Tryz.func19 ⟨⟨⟨b1, 0, none⟩, by kernel_rfl, ldV_run (S2.nth 0 rfl) (by kernel_rfl)⟩, by kernel_rfl, trivial⟩ ?_
  refine hR _ _ ?_
  obtain ⟨e1, e2⟩ := par_long (s := s) (by omega)
  exact ⟨by rw [e1, e2]; rfl, S2.nil⟩
 refine J.r 5 [false] [(16, .string s)] [] ?_
 refine J.callF 17 50 #[.string s, .string ⟨#[32]⟩] hb50 (by kernel_rfl) (split32_any s _ (by omega) (tabW_sep hW S1)) ?_
 rintro _ w3 ⟨b2, rfl, T1⟩
 have S3 : Sep w [box b2 ((piecesB 32 s).map Value.string) 9, box b1 kvW31_1 48] w3 := S1.trans T1
 have := splitOn_bound 32 (ls s); have := pieces_len 32 s; have := ls_length s
 refine J.nw 0 [] [] [] S3 4 [.slice none 0 0] 104 fun b3 w4 S4 => ?_
 refine J.sb 0 [] [] [] S4 0 rfl [.slice (some ⟨b2, 0, none⟩) ((piecesB 32 s).length) ((piecesB 32 s).length)] rfl fun w5 S5 => ?_
 refine J.r 3 [] [] [] ?_
 refine J.callF 18 52 #[] hb52 (by kernel_rfl) (rows_any _) ?_
 rintro _ w6 ⟨b4, rfl, T2⟩
 have S6 : Sep w [box b4 (rowsL.flatMap rwoE) 109, box b3 [.slice (some ⟨b2, 0, none⟩) ((piecesB 32 s).length) ((piecesB 32 s).length)] 104, box b2 ((piecesB 32 s).map Value.string) 9, box b1 kvW31_1 48] w6 := S5.trans T2
 refine J.r 1 [] [(19, .func (.func 53) #[] #[pv b3])] [] ?_
 refine J.callF 20 51 #[.slice (some ⟨b4, 0, none⟩) 23 23, .func (.func 53) #[] #[pv b3]] hb51 (by kernel_rfl) (indexRW1 (some ⟨b4, 0, none⟩) 23 23 rowsL 53 (pv b3) (fun r : Rwo => r.gname.toList == ((piecesB 32 s).getD 0 ByteArray.empty).toList) _ ((show Recs rwoE 3 w6 (some ⟨b4, 0, none⟩) 23 (rowsL : List Rwo) from ⟨rfl, fun _ => rfl, by decide, box_cells (S6.nth 0 rfl)⟩)) (by first | omega | (simp; omega)) hb53 (fun i_ w_ hi_ S_ => parse1_any _ b3 (some ⟨b2, 0, none⟩) ((piecesB 32 s).length) ((piecesB 32 s).length) (piecesB 32 s) w_ ((box_ones (S6.nth 2 rfl) ((piecesB 32 s).length) rfl).sep S_) (by omega) (box_keep (S6.nth 1 rfl) S_))) ?_
 rintro _ w7 ⟨rfl, T3⟩
 have S7 : Sep w [box b4 (rowsL.flatMap rwoE) 109, box b3 [.slice (some ⟨b2, 0, none⟩) ((piecesB 32 s).length) ((piecesB 32 s).length)] 104, box b2 ((piecesB 32 s).map Value.string) 9, box b1 kvW31_1 48] w7 := S6.trans T3
 obtain ⟨op, hop⟩ : ∃ x : Int, x = indexF (fun r : Rwo => r.gname.toList == ((piecesB 32 s).getD 0 ByteArray.empty).toList) rowsL := ⟨_, rfl⟩
 refine J.head (iv op) (congrArg (Value.int .i64) hop.symm) ?_
 obtain ⟨hix1, hix2, hix3, hix4⟩ := index_rows ((piecesB 32 s).getD 0 ByteArray.empty)
 rw [← hop] at hix1 hix2 hix3 hix4
 have hop2 := hix4
 refine J.r 4 [] [(5, iv op)] [] ?_
 by_cases fk2 : op < 1
 ·skip
  refine J.drawPlan (fun w_ => Sep w [box b4 (rowsL.flatMap rwoE) 109, box b3 [.slice (some ⟨b2, 0, none⟩) ((piecesB 32 s).length) ((piecesB 32 s).length)] 104, box b2 ((piecesB 32 s).map Value.string) 9, box b1 kvW31_1 48] w_) [(0, true), (1, true), (2, true), (3, true), (4, true), (5, true), (6, true), (7, true), (8, true), (9, true), (10, true), (11, true), (12, true), (13, true)] S7 Tryz.mixed (by kernel_rfl) (planOK_of (T := [(0, some 21, 32), (1, some 22, 2097152), (2, some 23, 4194304), (4, some 24, 8388624), (12, some 25, 25165824), (4, some 26, 8388608), (4, some 27, 8388640), (100, some 28, 209715200), (132, some 29, 276824064), (260, some 30, 545259520), (516, some 31, 1082130432), (1028, some 32, 2155872256), (2068, some 33, 4336910336), (4100, some 34, 8598323200)]) (by kernel_rfl) (by kernel_rfl)) ?_
  intro w8 S8
  refine PB.mk S8 ?_
  refine PL.take 0 21 (iv op) (fun _ _ => by kernel_rfl) ?_
  refine PL.take 1 22 (.bool (decide (op < 1))) (fun _ _ => by kernel_rfl) ?_
  refine PL.head (.bool true) (congrArg Value.bool (decide_eq_true fk2)) ?_
  refine PL.take 2 23 (.bool true) (fun _ _ => by kernel_rfl) ?_
  refine PL.takePass 3 (some 24) (by kernel_rfl) ?_
  refine PL.takePass 4 (some 25) (by kernel_rfl) ?_
  refine PL.takePass 5 (some 26) (by kernel_rfl) ?_
  refine PL.takePass 6 (some 27) (by kernel_rfl) ?_
  refine PL.takePass 7 (some 28) (by kernel_rfl) ?_
  refine PL.takePass 8 (some 29) (by kernel_rfl) ?_
  refine PL.takePass 9 (some 30) (by kernel_rfl) ?_
  refine PL.takePass 10 (some 31) (by kernel_rfl) ?_
  refine PL.takePass 11 (some 32) (by kernel_rfl) ?_
  refine PL.takePass 12 (some 33) (by kernel_rfl) ?_
  refine PL.take 13 34 (.bool true) (fun _ _ => by kernel_rfl) ?_
  refine PL.done ?_
  refine J.sb 4 [true] [] [] S8 3 rfl kvW31_1 rfl fun w9 S9 => ?_
  refine J.r 2 [] [(3, iv 3)] [] ?_
  refine J.ret Tryz.f19 [.agg #[iv 0, iv 0, iv 0, iv 0, iv 0], iv 3] Tryz.func19 ⟨⟨⟨b1, 0, none⟩, by kernel_rfl, ldV_run (S9.nth 3 rfl) (by kernel_rfl)⟩, by kernel_rfl, trivial⟩ ?_
  refine hR _ _ ?_
  obtain ⟨e1, e2⟩ := mat_none (s := s) (by omega) (readI_not rfl (by first | exact .inl (by omega) | exact .inr (by rw [hop2 (by omega), ← (rows_at (op := op) (by omega)).2.1]; omega)))
  exact ⟨by rw [e1, e2]; rfl, S9.nil⟩
 have hrz0 := rows_size (op := op) (by omega)
 refine J.drawPlan (fun w_ => Sep w [box b4 (rowsL.flatMap rwoE) 109, box b3 [.slice (some ⟨b2, 0, none⟩) ((piecesB 32 s).length) ((piecesB 32 s).length)] 104, box b2 ((piecesB 32 s).map Value.string) 9, box b1 kvW31_1 48] w_) [(0, true), (1, true), (2, true), (3, true), (4, true), (6, true), (5, false), (7, true), (8, true), (9, false), (10, true), (11, true), (12, true), (13, true)] S7 Tryz.mixed (by kernel_rfl) (planOK_of (T := [(0, some 21, 32), (1, some 22, 2097152), (2, some 23, 4194304), (4, some 24, 8388624), (12, some 25, 25165824), (4, some 26, 8388608), (4, some 27, 8388640), (100, some 28, 209715200), (132, some 29, 276824064), (260, some 30, 545259520), (516, some 31, 1082130432), (1028, some 32, 2155872256), (2068, some 33, 4336910336), (4100, some 34, 8598323200)]) (by kernel_rfl) (by kernel_rfl)) ?_
 intro w10 S10
 refine PB.mk S10 ?_
 refine PL.take 0 21 (iv op) (fun _ _ => by kernel_rfl) ?_
 refine PL.take 1 22 (.bool (decide (op < 1))) (fun _ _ => by kernel_rfl) ?_
 refine PL.head (.bool false) (congrArg Value.bool (decide_eq_false fk2)) ?_
 refine PL.take 2 23 (.bool false) (fun _ _ => by kernel_rfl) ?_
 refine PL.takeOK 3 (fun w_ S_ => OK.ldBox S_ 1 24 104 0 (.slice (some ⟨b2, 0, none⟩) ((piecesB 32 s).length) ((piecesB 32 s).length)) (by kernel_rfl) rfl (by kernel_rfl)) rfl ?_
 refine PL.take 4 25 (iv ((piecesB 32 s).length : Int)) (fun _ _ => by kernel_rfl) ?_
 refine PL.take 6 27 (iv op) (fun _ _ => by kernel_rfl) ?_
 refine PL.callF 26 52 #[] hb52 (by kernel_rfl) (rows_any _) ?_
 rintro _ w11 ⟨bd5, rfl, T4⟩
 have S11 : Sep w [box bd5 (rowsL.flatMap rwoE) 109, box b4 (rowsL.flatMap rwoE) 109, box b3 [.slice (some ⟨b2, 0, none⟩) ((piecesB 32 s).length) ((piecesB 32 s).length)] 104, box b2 ((piecesB 32 s).map Value.string) 9, box b1 kvW31_1 48] w11 := S10.trans T4
 clear T4 S10
 refine PB.mk (S11.erase 0) ?_
 refine PL.takeOK 7 (fun w_ S_ => OK.index 28 107 3 (some ⟨bd5, 0, none⟩) ⟨bd5, 0, none⟩ 23 (op).toNat op ⟨bd5, ((op).toNat) * 3, none⟩ (by kernel_rfl) (by kernel_rfl) rfl (by omega) (by first | omega | (simp; omega)) (by rw [add_block, Nat.zero_add])) rfl ?_
 refine PL.take 8 29 (.pointer (some ⟨bd5, ((op).toNat) * 3 + 1, none⟩)) (fun _ _ => by kernel_rfl) ?_
 refine PL.ok (OK.ldCell 30 9 ⟨bd5, ((op).toNat) * 3 + 1, none⟩ (.string ((rowsL.getD ((op).toNat) rwo0).gfields)) (by kernel_rfl) (by kernel_rfl) (box_rec_one (s := 3) (S11.nth 0 rfl) (fun _ => rfl) (by decide) rwo0 ((op).toNat) (by first | omega | (simp; omega)) 1 _ rfl)) ?_
 refine PB.mk (S11.erase 0) ?_
 refine PL.take 10 31 (iv (((rowsL.getD ((op).toNat) rwo0).gfields).size : Int)) (fun _ _ => by kernel_rfl) ?_
 refine PL.take 11 32 (iv (IntKind.wrap .i64 (1 + (((rowsL.getD ((op).toNat) rwo0).gfields).size : Int)))) (fun _ _ => by kernel_rfl) ?_
 refine PL.head (iv (1 + (((rowsL.getD ((op).toNat) rwo0).gfields).size : Int))) (congrArg (Value.int .i64) (IntWalk.i64_in _ (by omega))) ?_
 refine PL.take 12 33 (.bool (((piecesB 32 s).length : Int) != (1 + (((rowsL.getD ((op).toNat) rwo0).gfields).size : Int)))) (fun _ _ => by kernel_rfl) ?_
 refine PL.take 13 34 (.bool (((piecesB 32 s).length : Int) != (1 + (((rowsL.getD ((op).toNat) rwo0).gfields).size : Int)))) (fun _ _ => by kernel_rfl) ?_
 refine PL.done ?_
 refine J.cn 0 [] [] [] 34 (((piecesB 32 s).length : Int) = (1 + (((rowsL.getD ((op).toNat) rwo0).gfields).size : Int))) (fun fk3 => ?_) fun fk3 => ?_
 ·skip
  refine J.nw 6 [false] [(37, .agg #[iv op, iv 0, iv 0, iv 0, iv 0])] [] S11 6 kvW31_1 48 fun b5 w12 S12 => ?_
  refine J.sb 0 [] [] [] S12 0 rfl [iv op, iv 0, iv 0, iv 0, iv 0] rfl fun w13 S13 => ?_
  refine J.r 4 [] [] [] ?_
  refine J.callF 38 52 #[] hb52 (by kernel_rfl) (rows_any _) ?_
  rintro _ w14 ⟨b6, rfl, T5⟩
  have S14 : Sep w [box b6 (rowsL.flatMap rwoE) 109, box b5 [iv op, iv 0, iv 0, iv 0, iv 0] 48, box bd5 (rowsL.flatMap rwoE) 109, box b4 (rowsL.flatMap rwoE) 109, box b3 [.slice (some ⟨b2, 0, none⟩) ((piecesB 32 s).length) ((piecesB 32 s).length)] 104, box b2 ((piecesB 32 s).map Value.string) 9, box b1 kvW31_1 48] w14 := S13.trans T5
  refine J.r 1 [] [(39, iv op)] [] ?_
  refine J.ok (OK.index 40 107 3 (some ⟨b6, 0, none⟩) ⟨b6, 0, none⟩ 23 (op).toNat op ⟨b6, ((op).toNat) * 3, none⟩ (by kernel_rfl) (by kernel_rfl) rfl (by omega) (by first | omega | (simp; omega)) (by rw [add_block, Nat.zero_add])) ?_
  refine J.r 1 [] [(41, .pointer (some ⟨b6, ((op).toNat) * 3 + 1, none⟩))] [] ?_
  refine J.ok (OK.ldCell 42 9 ⟨b6, ((op).toNat) * 3 + 1, none⟩ (.string ((rowsL.getD ((op).toNat) rwo0).gfields)) (by kernel_rfl) (by kernel_rfl) (box_rec_one (s := 3) (S14.nth 0 rfl) (fun _ => rfl) (by decide) rwo0 ((op).toNat) (by first | omega | (simp; omega)) 1 _ rfl)) ?_
  refine J.strBytes S14 43 9 52 5 ((rowsL.getD ((op).toNat) rwo0).gfields) (by kernel_rfl) (by kernel_rfl) ?_
  intro b7 cq1 w15 S15
  have L19_1 : ∀ (mm_ : Nat) (a : Int) (b : Int) (c : Int) (q : Int) (k : Int) (w16 : World), (0 ≤ k) → (k ≤ (((rowsL.getD ((op).toNat) rwo0).gfields).size : Int)) → ((-9223372036854775808 ≤ a ∧ a ≤ 9223372036854775807) ∧ (-9223372036854775808 ≤ b ∧ b ≤ 9223372036854775807) ∧ (-9223372036854775808 ≤ c ∧ c ≤ 9223372036854775807) ∧ (-9223372036854775808 ≤ q ∧ q ≤ 9223372036854775807)) → (atW matW s op k (⟨op, a, b, c, q⟩ : Ins)) → Sep w [rows8 b7 ((rowsL.getD ((op).toNat) rwo0).gfields), box b6 (rowsL.flatMap rwoE) 109, box b5 [iv op, iv a, iv b, iv c, iv q] 48, box bd5 (rowsL.flatMap rwoE) 109, box b4 (rowsL.flatMap rwoE) 109, box b3 [.slice (some ⟨b2, 0, none⟩) ((piecesB 32 s).length) ((piecesB 32 s).length)] 104, box b2 ((piecesB 32 s).map Value.string) 9, box b1 kvW31_1 48] w16 → ((((rowsL.getD ((op).toNat) rwo0).gfields).size : Int) - k).toNat = mm_ → J Tryz.prog 19 89 R K19_0 [(45, iv k), (44, iv (((rowsL.getD ((op).toNat) rwo0).gfields).size : Int)), (43, .slice (some ⟨b7, 0, none⟩) (((rowsL.getD ((op).toNat) rwo0).gfields).size) cq1), (6, pv b5), (4, pv b3), (2, pv b1), (0, .string s)] w16 := by
   intro mm1
   induction mm1 using Nat.strongRecOn with
   | _ mm1 ih1 =>
   intro a b c q k w16 h0 h1 hb hG S16 hm1
   have hrw := rows_at (op := op) (by omega)
   have hrz := rows_size (op := op) (by omega)
   refine J.c 5 [] [] [] 46 (k < (((rowsL.getD ((op).toNat) rwo0).gfields).size : Int)) (fun fk4 => ?_) fun fk4 => ?_
   ·skip
    refine J.r 7 [true] [(47, iv k)] [] ?_
    obtain ⟨p1, hp1, hc1⟩ := rows8_at (S16.nth 0 rfl) (k).toNat (by first | omega | (simp; omega))
    have := byteAt_bounds ((rowsL.getD ((op).toNat) rwo0).gfields) (k).toNat
    refine J.ok (OK.index 48 52 1 (some ⟨b7, 0, none⟩) p1 (((rowsL.getD ((op).toNat) rwo0).gfields).size) (k).toNat k (p1.add (k).toNat) (by kernel_rfl) (by kernel_rfl) hp1 (by omega) (by first | omega | (simp; omega)) (by rw [Nat.mul_one])) ?_
    refine J.ok (OK.ldCell 49 5 (p1.add (k).toNat) (.int .u8 (byteAt ((rowsL.getD ((op).toNat) rwo0).gfields) (k).toNat)) (by kernel_rfl) (by kernel_rfl) hc1) ?_
    refine J.lb 5 [] [(8, .int .u8 (byteAt ((rowsL.getD ((op).toNat) rwo0).gfields) (k).toNat)), (7, iv k)] [] S16 5 rfl 50 (.slice (some ⟨b2, 0, none⟩) ((piecesB 32 s).length) ((piecesB 32 s).length)) ?_
    refine J.wi 2 [] [] [] 52 (k + 1) ?_
    refine J.ok (OK.index 53 104 1 (some ⟨b2, 0, none⟩) ⟨b2, 0, none⟩ ((piecesB 32 s).length) (k + 1).toNat (k + 1) ⟨b2, (k + 1).toNat, none⟩ (by kernel_rfl) (by kernel_rfl) rfl (by omega) (by first | omega | (simp; omega)) (by rw [Nat.mul_one, add_block, Nat.zero_add])) ?_
    refine J.ok (OK.ldArr Value.string S16 6 54 9 ((k + 1).toNat) ByteArray.empty (by kernel_rfl) (by kernel_rfl) rfl (by first | omega | (simp; omega))) ?_
    refine J.cn 8 [] [(9, .string ((piecesB 32 s).getD ((k + 1).toNat) ByteArray.empty))] [] 56 ((byteAt ((rowsL.getD ((op).toNat) rwo0).gfields) (k).toNat) = 75) (fun fk5 => ?_) fun fk5 => ?_
    ·skip
     refine J.r 5 [false] [(60, .string ((piecesB 32 s).getD ((k + 1).toNat) ByteArray.empty))] [] ?_
     rcases Bool.eq_false_or_eq_true ((atM (ls ((piecesB 32 s).getD ((k + 1).toNat) ByteArray.empty))).isSome) with fk6 | fk6
     rotate_left
     ·skip
      have hps_ := piece_size 32 s (k + 1).toNat
      refine J.cf 0 [] [] [] 61 hb55 (atoi_none ((piecesB 32 s).getD ((k + 1).toNat) ByteArray.empty) _ (by omega) fk6 (tabW_sep hW S16)) ?_
      rintro _ w22 ⟨ex1, en1, rfl, T6⟩
      have S22 : Sep w [rows8 b7 ((rowsL.getD ((op).toNat) rwo0).gfields), box b6 (rowsL.flatMap rwoE) 109, box b5 [iv op, iv a, iv b, iv c, iv q] 48, box bd5 (rowsL.flatMap rwoE) 109, box b4 (rowsL.flatMap rwoE) 109, box b3 [.slice (some ⟨b2, 0, none⟩) ((piecesB 32 s).length) ((piecesB 32 s).length)] 104, box b2 ((piecesB 32 s).map Value.string) 9, box b1 kvW31_1 48] w22 := S16.trans T6
      refine J.sb 16 [true] [] [] S22 7 rfl kvW31_1 rfl fun w23 S23 => ?_
      refine J.r 2 [] [(3, iv 3)] [] ?_
      refine J.ret Tryz.f19 [.agg #[iv 0, iv 0, iv 0, iv 0, iv 0], iv 3] Tryz.func19 ⟨⟨⟨b1, 0, none⟩, by kernel_rfl, ldV_run (S23.nth 7 rfl) (by kernel_rfl)⟩, by kernel_rfl, trivial⟩ ?_
      refine hR _ _ ?_
      obtain ⟨e1, e2⟩ := mat_none (s := s) (by omega) (atW_none hG h0 (by rw [← hrw.2.1]; omega) rfl (by rw [← hrw.2.1]; omega) (by rw [← hrw.2.1]; exact (mat_k (by omega)).trans (at_none fk6)))
      exact ⟨by rw [e1, e2]; rfl, S23.nil⟩
     have hps_ := piece_size 32 s (k + 1).toNat
     have := atM_bd (ls ((piecesB 32 s).getD ((k + 1).toNat) ByteArray.empty))
     refine J.c0 0 [] [] [] S16 61 hb55 (atoi_some ((piecesB 32 s).getD ((k + 1).toNat) ByteArray.empty) _ (by omega) fk6) fun w17 S17 => ?_
     refine J.c 24 [false] [(67, .int .u8 (byteAt ((rowsL.getD ((op).toNat) rwo0).gfields) (k).toNat)), (10, iv ((atM (ls ((piecesB 32 s).getD ((k + 1).toNat) ByteArray.empty))).getD 0))] [] 70 ((byteAt ((rowsL.getD ((op).toNat) rwo0).gfields) (k).toNat) = 65) (fun fk7 => ?_) fun fk7 => ?_
     ·skip
      refine J.sb 4 [true] [] [] S17 2 rfl [iv op, iv ((atM (ls ((piecesB 32 s).getD ((k + 1).toNat) ByteArray.empty))).getD 0), iv b, iv c, iv q] rfl fun w18 S18 => ?_
      refine J.wi 5 [] [] [] 82 (k + 1) ?_
      exact J.t 3 (ih1 _ (show ((((rowsL.getD ((op).toNat) rwo0).gfields).size : Int) - (k + 1)).toNat < mm1 from by omega) ((atM (ls ((piecesB 32 s).getD ((k + 1).toNat) ByteArray.empty))).getD 0) b c q (k + 1) w18 (by omega) (by omega) (by omega) (by have h_ := atW_next hG h0 (by rw [← hrw.2.1]; omega) (w := ((piecesB 32 s).getD (k + 1).toNat ByteArray.empty)) rfl (by rw [← hrw.2.1]; omega) (by rw [← hrw.2.1]; exact (mat_k (by omega)).trans (at_some fk6)); rw [← hrw.2.1, set_val.1 (by omega)] at h_; exact h_) S18 rfl)
     refine J.c 6 [false] [] [] 74 ((byteAt ((rowsL.getD ((op).toNat) rwo0).gfields) (k).toNat) = 66) (fun fk8 => ?_) fun fk8 => ?_
     ·skip
      refine J.sb 4 [true] [] [] S17 2 rfl [iv op, iv a, iv ((atM (ls ((piecesB 32 s).getD ((k + 1).toNat) ByteArray.empty))).getD 0), iv c, iv q] rfl fun w19 S19 => ?_
      refine J.wi 5 [] [] [] 82 (k + 1) ?_
      exact J.t 3 (ih1 _ (show ((((rowsL.getD ((op).toNat) rwo0).gfields).size : Int) - (k + 1)).toNat < mm1 from by omega) a ((atM (ls ((piecesB 32 s).getD ((k + 1).toNat) ByteArray.empty))).getD 0) c q (k + 1) w19 (by omega) (by omega) (by omega) (by have h_ := atW_next hG h0 (by rw [← hrw.2.1]; omega) (w := ((piecesB 32 s).getD (k + 1).toNat ByteArray.empty)) rfl (by rw [← hrw.2.1]; omega) (by rw [← hrw.2.1]; exact (mat_k (by omega)).trans (at_some fk6)); rw [← hrw.2.1, set_val.2.1 (by omega)] at h_; exact h_) S19 rfl)
     refine J.c 6 [false] [] [] 78 ((byteAt ((rowsL.getD ((op).toNat) rwo0).gfields) (k).toNat) = 67) (fun fk9 => ?_) fun fk9 => ?_
     ·skip
      refine J.sb 4 [true] [] [] S17 2 rfl [iv op, iv a, iv b, iv ((atM (ls ((piecesB 32 s).getD ((k + 1).toNat) ByteArray.empty))).getD 0), iv q] rfl fun w20 S20 => ?_
      refine J.wi 5 [] [] [] 82 (k + 1) ?_
      exact J.t 3 (ih1 _ (show ((((rowsL.getD ((op).toNat) rwo0).gfields).size : Int) - (k + 1)).toNat < mm1 from by omega) a b ((atM (ls ((piecesB 32 s).getD ((k + 1).toNat) ByteArray.empty))).getD 0) q (k + 1) w20 (by omega) (by omega) (by omega) (by have h_ := atW_next hG h0 (by rw [← hrw.2.1]; omega) (w := ((piecesB 32 s).getD (k + 1).toNat ByteArray.empty)) rfl (by rw [← hrw.2.1]; omega) (by rw [← hrw.2.1]; exact (mat_k (by omega)).trans (at_some fk6)); rw [← hrw.2.1, set_val.2.2.1 (by omega)] at h_; exact h_) S20 rfl)
     refine J.sb 4 [false] [] [] S17 2 rfl [iv op, iv a, iv b, iv c, iv ((atM (ls ((piecesB 32 s).getD ((k + 1).toNat) ByteArray.empty))).getD 0)] rfl fun w21 S21 => ?_
     refine J.wi 5 [] [] [] 82 (k + 1) ?_
     exact J.t 3 (ih1 _ (show ((((rowsL.getD ((op).toNat) rwo0).gfields).size : Int) - (k + 1)).toNat < mm1 from by omega) a b c ((atM (ls ((piecesB 32 s).getD ((k + 1).toNat) ByteArray.empty))).getD 0) (k + 1) w21 (by omega) (by omega) (by omega) (by have h_ := atW_next hG h0 (by rw [← hrw.2.1]; omega) (w := ((piecesB 32 s).getD (k + 1).toNat ByteArray.empty)) rfl (by rw [← hrw.2.1]; omega) (by rw [← hrw.2.1]; exact (mat_k (by omega)).trans (at_some fk6)); rw [← hrw.2.1, set_val.2.2.2 (by omega) (by omega) (by omega)] at h_; exact h_) S21 rfl)
    refine J.c0 3 [true] [] [] S16 58 hb54 (trimprefix_any ((piecesB 32 s).getD ((k + 1).toNat) ByteArray.empty) (⟨#[114]⟩ : ByteArray) _) fun w24 S24 => ?_
    refine J.r 5 [] [(60, .string (⟨(Lib.trimPrefix (ls ((piecesB 32 s).getD ((k + 1).toNat) ByteArray.empty)) (ls (⟨#[114]⟩ : ByteArray))).toArray⟩ : ByteArray))] [9] ?_
    rcases Bool.eq_false_or_eq_true ((atM (ls (⟨(Lib.trimPrefix (ls ((piecesB 32 s).getD ((k + 1).toNat) ByteArray.empty)) (ls (⟨#[114]⟩ : ByteArray))).toArray⟩ : ByteArray))).isSome) with fk10 | fk10
    rotate_left
    ·skip
     have hps_ := piece_size 32 s (k + 1).toNat
     have hts_ := trim_size ((piecesB 32 s).getD (k + 1).toNat ByteArray.empty) (⟨#[114]⟩ : ByteArray)
     refine J.cf 0 [] [] [] 61 hb55 (atoi_none (⟨(Lib.trimPrefix (ls ((piecesB 32 s).getD ((k + 1).toNat) ByteArray.empty)) (ls (⟨#[114]⟩ : ByteArray))).toArray⟩ : ByteArray) _ (by omega) fk10 (tabW_sep hW S24)) ?_
     rintro _ w30 ⟨ex2, en2, rfl, T7⟩
     have S30 : Sep w [rows8 b7 ((rowsL.getD ((op).toNat) rwo0).gfields), box b6 (rowsL.flatMap rwoE) 109, box b5 [iv op, iv a, iv b, iv c, iv q] 48, box bd5 (rowsL.flatMap rwoE) 109, box b4 (rowsL.flatMap rwoE) 109, box b3 [.slice (some ⟨b2, 0, none⟩) ((piecesB 32 s).length) ((piecesB 32 s).length)] 104, box b2 ((piecesB 32 s).map Value.string) 9, box b1 kvW31_1 48] w30 := S24.trans T7
     refine J.sb 16 [true] [] [] S30 7 rfl kvW31_1 rfl fun w31 S31 => ?_
     refine J.r 2 [] [(3, iv 3)] [] ?_
     refine J.ret Tryz.f19 [.agg #[iv 0, iv 0, iv 0, iv 0, iv 0], iv 3] Tryz.func19 ⟨⟨⟨b1, 0, none⟩, by kernel_rfl, ldV_run (S31.nth 7 rfl) (by kernel_rfl)⟩, by kernel_rfl, trivial⟩ ?_
     refine hR _ _ ?_
     obtain ⟨e1, e2⟩ := mat_none (s := s) (by omega) (atW_none hG h0 (by rw [← hrw.2.1]; omega) rfl (by rw [← hrw.2.1]; omega) (by rw [← hrw.2.1]; exact (mat_r (by omega) rfl).trans (at_none fk10)))
     exact ⟨by rw [e1, e2]; rfl, S31.nil⟩
    have hps_ := piece_size 32 s (k + 1).toNat
    have hts_ := trim_size ((piecesB 32 s).getD (k + 1).toNat ByteArray.empty) (⟨#[114]⟩ : ByteArray)
    have := atM_bd (ls (⟨(Lib.trimPrefix (ls ((piecesB 32 s).getD ((k + 1).toNat) ByteArray.empty)) (ls (⟨#[114]⟩ : ByteArray))).toArray⟩ : ByteArray))
    refine J.c0 0 [] [] [] S24 61 hb55 (atoi_some (⟨(Lib.trimPrefix (ls ((piecesB 32 s).getD ((k + 1).toNat) ByteArray.empty)) (ls (⟨#[114]⟩ : ByteArray))).toArray⟩ : ByteArray) _ (by omega) fk10) fun w25 S25 => ?_
    refine J.c 24 [false] [(67, .int .u8 (byteAt ((rowsL.getD ((op).toNat) rwo0).gfields) (k).toNat)), (10, iv ((atM (ls (⟨(Lib.trimPrefix (ls ((piecesB 32 s).getD ((k + 1).toNat) ByteArray.empty)) (ls (⟨#[114]⟩ : ByteArray))).toArray⟩ : ByteArray))).getD 0))] [] 70 ((byteAt ((rowsL.getD ((op).toNat) rwo0).gfields) (k).toNat) = 65) (fun fk11 => ?_) fun fk11 => ?_
    ·skip
     refine J.sb 4 [true] [] [] S25 2 rfl [iv op, iv ((atM (ls (⟨(Lib.trimPrefix (ls ((piecesB 32 s).getD ((k + 1).toNat) ByteArray.empty)) (ls (⟨#[114]⟩ : ByteArray))).toArray⟩ : ByteArray))).getD 0), iv b, iv c, iv q] rfl fun w26 S26 => ?_
     refine J.wi 5 [] [] [] 82 (k + 1) ?_
     exact J.t 3 (ih1 _ (show ((((rowsL.getD ((op).toNat) rwo0).gfields).size : Int) - (k + 1)).toNat < mm1 from by omega) ((atM (ls (⟨(Lib.trimPrefix (ls ((piecesB 32 s).getD ((k + 1).toNat) ByteArray.empty)) (ls (⟨#[114]⟩ : ByteArray))).toArray⟩ : ByteArray))).getD 0) b c q (k + 1) w26 (by omega) (by omega) (by omega) (by have h_ := atW_next hG h0 (by rw [← hrw.2.1]; omega) (w := ((piecesB 32 s).getD (k + 1).toNat ByteArray.empty)) rfl (by rw [← hrw.2.1]; omega) (by rw [← hrw.2.1]; exact (mat_r (by omega) rfl).trans (at_some fk10)); rw [← hrw.2.1, set_val.1 (by omega)] at h_; exact h_) S26 rfl)
    refine J.c 6 [false] [] [] 74 ((byteAt ((rowsL.getD ((op).toNat) rwo0).gfields) (k).toNat) = 66) (fun fk12 => ?_) fun fk12 => ?_
    ·skip
     refine J.sb 4 [true] [] [] S25 2 rfl [iv op, iv a, iv ((atM (ls (⟨(Lib.trimPrefix (ls ((piecesB 32 s).getD ((k + 1).toNat) ByteArray.empty)) (ls (⟨#[114]⟩ : ByteArray))).toArray⟩ : ByteArray))).getD 0), iv c, iv q] rfl fun w27 S27 => ?_
     refine J.wi 5 [] [] [] 82 (k + 1) ?_
     exact J.t 3 (ih1 _ (show ((((rowsL.getD ((op).toNat) rwo0).gfields).size : Int) - (k + 1)).toNat < mm1 from by omega) a ((atM (ls (⟨(Lib.trimPrefix (ls ((piecesB 32 s).getD ((k + 1).toNat) ByteArray.empty)) (ls (⟨#[114]⟩ : ByteArray))).toArray⟩ : ByteArray))).getD 0) c q (k + 1) w27 (by omega) (by omega) (by omega) (by have h_ := atW_next hG h0 (by rw [← hrw.2.1]; omega) (w := ((piecesB 32 s).getD (k + 1).toNat ByteArray.empty)) rfl (by rw [← hrw.2.1]; omega) (by rw [← hrw.2.1]; exact (mat_r (by omega) rfl).trans (at_some fk10)); rw [← hrw.2.1, set_val.2.1 (by omega)] at h_; exact h_) S27 rfl)
    refine J.c 6 [false] [] [] 78 ((byteAt ((rowsL.getD ((op).toNat) rwo0).gfields) (k).toNat) = 67) (fun fk13 => ?_) fun fk13 => ?_
    ·skip
     refine J.sb 4 [true] [] [] S25 2 rfl [iv op, iv a, iv b, iv ((atM (ls (⟨(Lib.trimPrefix (ls ((piecesB 32 s).getD ((k + 1).toNat) ByteArray.empty)) (ls (⟨#[114]⟩ : ByteArray))).toArray⟩ : ByteArray))).getD 0), iv q] rfl fun w28 S28 => ?_
     refine J.wi 5 [] [] [] 82 (k + 1) ?_
     exact J.t 3 (ih1 _ (show ((((rowsL.getD ((op).toNat) rwo0).gfields).size : Int) - (k + 1)).toNat < mm1 from by omega) a b ((atM (ls (⟨(Lib.trimPrefix (ls ((piecesB 32 s).getD ((k + 1).toNat) ByteArray.empty)) (ls (⟨#[114]⟩ : ByteArray))).toArray⟩ : ByteArray))).getD 0) q (k + 1) w28 (by omega) (by omega) (by omega) (by have h_ := atW_next hG h0 (by rw [← hrw.2.1]; omega) (w := ((piecesB 32 s).getD (k + 1).toNat ByteArray.empty)) rfl (by rw [← hrw.2.1]; omega) (by rw [← hrw.2.1]; exact (mat_r (by omega) rfl).trans (at_some fk10)); rw [← hrw.2.1, set_val.2.2.1 (by omega)] at h_; exact h_) S28 rfl)
    refine J.sb 4 [false] [] [] S25 2 rfl [iv op, iv a, iv b, iv c, iv ((atM (ls (⟨(Lib.trimPrefix (ls ((piecesB 32 s).getD ((k + 1).toNat) ByteArray.empty)) (ls (⟨#[114]⟩ : ByteArray))).toArray⟩ : ByteArray))).getD 0)] rfl fun w29 S29 => ?_
    refine J.wi 5 [] [] [] 82 (k + 1) ?_
    exact J.t 3 (ih1 _ (show ((((rowsL.getD ((op).toNat) rwo0).gfields).size : Int) - (k + 1)).toNat < mm1 from by omega) a b c ((atM (ls (⟨(Lib.trimPrefix (ls ((piecesB 32 s).getD ((k + 1).toNat) ByteArray.empty)) (ls (⟨#[114]⟩ : ByteArray))).toArray⟩ : ByteArray))).getD 0) (k + 1) w29 (by omega) (by omega) (by omega) (by have h_ := atW_next hG h0 (by rw [← hrw.2.1]; omega) (w := ((piecesB 32 s).getD (k + 1).toNat ByteArray.empty)) rfl (by rw [← hrw.2.1]; omega) (by rw [← hrw.2.1]; exact (mat_r (by omega) rfl).trans (at_some fk10)); rw [← hrw.2.1, set_val.2.2.2 (by omega) (by omega) (by omega)] at h_; exact h_) S29 rfl)
   refine J.lb 5 [false] [] [] S16 2 rfl 83 (.agg #[iv op, iv a, iv b, iv c, iv q]) ?_
   refine J.c0 0 [] [] [] S16 84 hb21 (mtext_any (⟨op, a, b, c, q⟩ : Ins) _ (show insQ _ (⟨op, a, b, c, q⟩ : Ins) from ⟨(show (-9223372036854775808) ≤ (op : Int) ∧ (op : Int) ≤ 9223372036854775807 from by omega), (show (-9223372036854775808) ≤ (a : Int) ∧ (a : Int) ≤ 9223372036854775807 from by omega), (show (-9223372036854775808) ≤ (b : Int) ∧ (b : Int) ≤ 9223372036854775807 from by omega), (show (-9223372036854775808) ≤ (c : Int) ∧ (c : Int) ≤ 9223372036854775807 from by omega), (show (-9223372036854775808) ≤ (q : Int) ∧ (q : Int) ≤ 9223372036854775807 from by omega), trivial⟩) (tabW_sep hW S16)) fun w32 S32 => ?_
   refine J.b 3 [] [] [] 86 (!((textI (⟨op, a, b, c, q⟩ : Ins)).toList == s.toList)) (fun fk14 => ?_) fun fk14 => ?_
   ·skip
    refine J.sb 4 [true] [] [] S32 7 rfl kvW31_1 rfl fun w33 S33 => ?_
    refine J.r 2 [] [(3, iv 3)] [] ?_
    refine J.ret Tryz.f19 [.agg #[iv 0, iv 0, iv 0, iv 0, iv 0], iv 3] Tryz.func19 ⟨⟨⟨b1, 0, none⟩, by kernel_rfl, ldV_run (S33.nth 7 rfl) (by kernel_rfl)⟩, by kernel_rfl, trivial⟩ ?_
    refine hR _ _ ?_
    obtain ⟨e1, e2⟩ := mat_other (s := s) (by omega) (atW_end hG (by rw [← hrw.2.1]; omega)) (by simpa using fk14)
    exact ⟨by rw [e1, e2]; rfl, S33.nil⟩
   refine J.lb 4 [false] [] [] S32 2 rfl 88 (.agg #[iv op, iv a, iv b, iv c, iv q]) ?_
   refine J.sb 0 [] [] [] S32 7 rfl [iv op, iv a, iv b, iv c, iv q] rfl fun w34 S34 => ?_
   refine J.r 2 [] [(3, iv 0)] [] ?_
   refine J.ret Tryz.f19 [.agg #[iv op, iv a, iv b, iv c, iv q], iv 0] Tryz.func19 ⟨⟨⟨b1, 0, none⟩, by kernel_rfl, ldV_run (S34.nth 7 rfl) (by kernel_rfl)⟩, by kernel_rfl, trivial⟩ ?_
   refine hR _ _ ?_
   obtain ⟨e1, e2⟩ := mat_same (s := s) (by omega) (atW_end hG (by rw [← hrw.2.1]; omega)) (by simpa using fk14)
   exact ⟨by rw [e1, e2]; rfl, S34.nil⟩
  exact J.t 5 (L19_1 _ 0 0 0 0 0 w15 (by omega) (by have hrz := rows_size (op := op) (by omega); omega) (by omega) (atW_start rfl (hop2 (by omega)) (by omega) (by rw [← (rows_at (op := op) (by omega)).2.1]; omega)) S15 rfl)
 refine J.sb 4 [true] [] [] S11 4 rfl kvW31_1 rfl fun w35 S35 => ?_
 refine J.r 2 [] [(3, iv 3)] [] ?_
 refine J.ret Tryz.f19 [.agg #[iv 0, iv 0, iv 0, iv 0, iv 0], iv 3] Tryz.func19 ⟨⟨⟨b1, 0, none⟩, by kernel_rfl, ldV_run (S35.nth 4 rfl) (by kernel_rfl)⟩, by kernel_rfl, trivial⟩ ?_
 refine hR _ _ ?_
 obtain ⟨e1, e2⟩ := mat_none (s := s) (by omega) (readI_not rfl (by first | exact .inl (by omega) | exact .inr (by rw [hop2 (by omega), ← (rows_at (op := op) (by omega)).2.1]; omega)))
 exact ⟨by rw [e1, e2]; rfl, S35.nil⟩

end
end Go.Proofs.YtaoolgcddapegaaGreatDoor

namespace Go.Proofs.YtaoolgcddapegaaGreatDoor
open Go.Eng Go.RowKit
set_option linter.unusedSimpArgs false
set_option linter.unusedVariables false
set_option maxRecDepth 20000
set_option maxHeartbeats 20000000
theorem form_q {i : Ins} (h : formB i = true) (w : World) : insQ w i := by
  have hp := formB_iff.1 h
  exact ⟨by omega, by omega, by omega, by omega, by omega, trivial⟩
theorem parI_q (s : ByteArray) (w : World) : insQ w (parI s) := by
  have h0 : insQ w ins0 := ⟨by decide, by decide, by decide, by decide, by decide, trivial⟩
  unfold parI
  split
  · exact h0
  · split
    · rename_i j hj; exact form_q (filter_some hj).2 w
    · exact h0
theorem hb20 : HasBody Tryz.prog 20 := fun _ _ => by kernel_rfl

theorem bequal_any (la : Option Addr) (na ca : Nat) (xa : List Int) (lb : Option Addr) (nb cb : Nat) (xb : List Int) (w : World) (ha : Ones (Value.int .u8) w la na xa) (hb : Ones (Value.int .u8) w lb nb xb) (hpa : ∀ p, la = some p → p = ⟨p.block, p.off, none⟩) (hpb : ∀ p, lb = some p → p = ⟨p.block, p.off, none⟩) : Ret Tryz.prog 20 #[.slice la na ca, .slice lb nb cb] w (fun v w' => v = .bool ((bytesB xa).toList == (bytesB xb).toList) ∧ Sep w [] w') := by
 refine Ret.st (N := 10) Tryz.func20 fun R hR S0 => ?_
 refine J.r 7 [] [(5, .slice la na ca)] [] ?_
 refine J.ok (OK.bytes 6 52 9 la na ca xa (by kernel_rfl) (by kernel_rfl) (ha.sep S0) hpa) ?_
 refine J.r 1 [] [(7, .slice lb nb cb)] [] ?_
 refine J.ok (OK.bytes 8 52 9 lb nb cb xb (by kernel_rfl) (by kernel_rfl) (hb.sep S0) hpb) ?_
 refine J.e 3 [.bool ((bytesB xa).toList == (bytesB xb).toList)] Tryz.func20 (hR _ _ ?_)
 exact ⟨rfl, S0.nil⟩

theorem hb7 : HasBody Tryz.prog 7 := fun _ _ => by kernel_rfl

theorem awake_any  (w : World) (hW : TabW w) : Ret Tryz.prog 7 #[] w (fun v w' => v = .bool true ∧ Sep w [] w') := by
 refine Ret.st (N := 35) Tryz.func7 fun R hR S0 => ?_
 have hpi := parI_q (⟨#[109, 117, 108, 32, 114, 50, 32, 114, 48, 32, 114, 49, 32, 49, 55]⟩ : ByteArray) w
 have hxs : (⟨#[109, 117, 108, 32, 114, 50, 32, 114, 48, 32, 114, 49, 32, 49, 55]⟩ : ByteArray).size = 15 := rfl
 refine J.cf 7 [] [] [] 7 hb18 (encode_any (⟨1, 0, 0, 0, -5⟩ : Ins) _ (show insQ _ (⟨1, 0, 0, 0, -5⟩ : Ins) from ⟨(show (-9223372036854775808) ≤ (1 : Int) ∧ (1 : Int) ≤ 9223372036854775807 from by omega), (show (-9223372036854775808) ≤ (0 : Int) ∧ (0 : Int) ≤ 9223372036854775807 from by omega), (show (-9223372036854775808) ≤ (0 : Int) ∧ (0 : Int) ≤ 9223372036854775807 from by omega), (show (-9223372036854775808) ≤ (0 : Int) ∧ (0 : Int) ≤ 9223372036854775807 from by omega), (show (-9223372036854775808) ≤ (-5 : Int) ∧ (-5 : Int) ≤ 9223372036854775807 from by omega), trivial⟩)) ?_
 rintro _ w1 ⟨ra1, rc1, rfl, T1⟩
 have S1 : Sep w [rowOf (enc1 (Value.int .u8)) ra1 rc1 5 1 (encX (⟨1, 0, 0, 0, -5⟩ : Ins))] w1 := S0.trans T1
 have := encX_len (⟨1, 0, 0, 0, -5⟩ : Ins)
 refine J.c0 8 [] [(2, iv (encE (⟨1, 0, 0, 0, -5⟩ : Ins))), (1, .slice ra1 ((encX (⟨1, 0, 0, 0, -5⟩ : Ins)).length) rc1)] [] S1 11 hb19 (mparse_any (⟨#[109, 117, 108, 32, 114, 50, 32, 114, 48, 32, 114, 49, 32, 49, 55]⟩ : ByteArray) _ (by omega) (tabW_sep hW S1)) fun w2 S2 => ?_
 refine J.nw 3 [] [(13, iv (parIE (⟨#[109, 117, 108, 32, 114, 50, 32, 114, 48, 32, 114, 49, 32, 49, 55]⟩ : ByteArray))), (12, .agg (insA (parI (⟨#[109, 117, 108, 32, 114, 50, 32, 114, 48, 32, 114, 49, 32, 49, 55]⟩ : ByteArray))))] [] S2 3 [iv 0, iv 0, iv 0, iv 0, iv 0] 48 fun b1 w3 S3 => ?_
 refine J.sb 0 [] [] [] S3 0 rfl (insC (parI (⟨#[109, 117, 108, 32, 114, 50, 32, 114, 48, 32, 114, 49, 32, 49, 55]⟩ : ByteArray))) rfl fun w4 S4 => ?_
 have fk2 : (encE (⟨1, 0, 0, 0, -5⟩ : Ins)) = 0 := (by kernel_rfl)
 refine J.h 7 [] [(4, iv (parIE (⟨#[109, 117, 108, 32, 114, 50, 32, 114, 48, 32, 114, 49, 32, 49, 55]⟩ : ByteArray)))] [] 16 (.bool ((encE (⟨1, 0, 0, 0, -5⟩ : Ins)) == 0)) (.bool true) (congrArg Value.bool (beq_iff_eq.2 fk2)) ?_
 refine J.r 1 [] [(17, .slice ra1 ((encX (⟨1, 0, 0, 0, -5⟩ : Ins)).length) rc1)] [] ?_
 refine J.newSlice S4 18 12 [.int .u8 1, .int .u8 0, .int .u8 0, .int .u8 0, .int .u8 255, .int .u8 255, .int .u8 255, .int .u8 255, .int .u8 255, .int .u8 255, .int .u8 255, .int .u8 251] 5 (by kernel_rfl) ?_
 intro b2 w5 S5
 have := rowOf_len (S5.nth 2 rfl)
 have := rowOf_len (S5.nth 2 rfl)
 refine J.c0 0 [] [] [] S5 19 hb20 (bequal_any ra1 ((encX (⟨1, 0, 0, 0, -5⟩ : Ins)).length) rc1 (encX (⟨1, 0, 0, 0, -5⟩ : Ins)) (some ⟨b2, 0, none⟩) 12 12 ([1, 0, 0, 0, 255, 255, 255, 255, 255, 255, 255, 251]) _ ((row1_ones (S5.nth 2 rfl) ((encX (⟨1, 0, 0, 0, -5⟩ : Ins)).length) (by first | rfl | omega | simp))) ((show Ones (Value.int .u8) w5 (some ⟨b2, 0, none⟩) 12 [1, 0, 0, 0, 255, 255, 255, 255, 255, 255, 255, 251] from ⟨rfl, box_cells (S5.nth 0 rfl)⟩)) (fun p hp => by rw [rowOf_plain (S5.nth 2 rfl) p hp]) (fun p hp => by cases hp; rfl)) fun w6 S6 => ?_
 have fk4 : ((bytesB (encX (⟨1, 0, 0, 0, -5⟩ : Ins))).toList == (bytesB ([1, 0, 0, 0, 255, 255, 255, 255, 255, 255, 255, 251])).toList) = true := (by kernel_rfl)
 refine J.h 2 [] [] [] 21 (.bool ((bytesB (encX (⟨1, 0, 0, 0, -5⟩ : Ins))).toList == (bytesB ([1, 0, 0, 0, 255, 255, 255, 255, 255, 255, 255, 251])).toList)) (.bool true) (congrArg Value.bool fk4) ?_
 have fk6 : (parIE (⟨#[109, 117, 108, 32, 114, 50, 32, 114, 48, 32, 114, 49, 32, 49, 55]⟩ : ByteArray)) = 0 := (by kernel_rfl)
 refine J.h 4 [] [] [] 25 (.bool ((parIE (⟨#[109, 117, 108, 32, 114, 50, 32, 114, 48, 32, 114, 49, 32, 49, 55]⟩ : ByteArray)) == 0)) (.bool true) (congrArg Value.bool (beq_iff_eq.2 fk6)) ?_
 refine J.lb 0 [] [] [] S6 1 rfl 26 (.agg (insA (parI (⟨#[109, 117, 108, 32, 114, 50, 32, 114, 48, 32, 114, 49, 32, 49, 55]⟩ : ByteArray)))) ?_
 refine J.r 1 [] [(27, .agg #[iv 7, iv 2, iv 0, iv 1, iv 17])] [] ?_
 refine J.ok (OK.eqS 28 true 48 (insA (parI (⟨#[109, 117, 108, 32, 114, 50, 32, 114, 48, 32, 114, 49, 32, 49, 55]⟩ : ByteArray))) #[iv 7, iv 2, iv 0, iv 1, iv 17] ((((parI (⟨#[109, 117, 108, 32, 114, 50, 32, 114, 48, 32, 114, 49, 32, 49, 55]⟩ : ByteArray)).gOp) == 7) && ((((parI (⟨#[109, 117, 108, 32, 114, 50, 32, 114, 48, 32, 114, 49, 32, 49, 55]⟩ : ByteArray)).gA) == 2) && ((((parI (⟨#[109, 117, 108, 32, 114, 50, 32, 114, 48, 32, 114, 49, 32, 49, 55]⟩ : ByteArray)).gB) == 0) && ((((parI (⟨#[109, 117, 108, 32, 114, 50, 32, 114, 48, 32, 114, 49, 32, 49, 55]⟩ : ByteArray)).gC) == 1) && ((((parI (⟨#[109, 117, 108, 32, 114, 50, 32, 114, 48, 32, 114, 49, 32, 49, 55]⟩ : ByteArray)).gK) == 17) && true))))) (by kernel_rfl) (by kernel_rfl) (by kernel_rfl) ((((parI (⟨#[109, 117, 108, 32, 114, 50, 32, 114, 48, 32, 114, 49, 32, 49, 55]⟩ : ByteArray)).gOp) == 7) && ((((parI (⟨#[109, 117, 108, 32, 114, 50, 32, 114, 48, 32, 114, 49, 32, 49, 55]⟩ : ByteArray)).gA) == 2) && ((((parI (⟨#[109, 117, 108, 32, 114, 50, 32, 114, 48, 32, 114, 49, 32, 49, 55]⟩ : ByteArray)).gB) == 0) && ((((parI (⟨#[109, 117, 108, 32, 114, 50, 32, 114, 48, 32, 114, 49, 32, 49, 55]⟩ : ByteArray)).gC) == 1) && (((parI (⟨#[109, 117, 108, 32, 114, 50, 32, 114, 48, 32, 114, 49, 32, 49, 55]⟩ : ByteArray)).gK) == 17))))) (by simp)) ?_
 have fk8 : ((((parI (⟨#[109, 117, 108, 32, 114, 50, 32, 114, 48, 32, 114, 49, 32, 49, 55]⟩ : ByteArray)).gOp) == 7) && ((((parI (⟨#[109, 117, 108, 32, 114, 50, 32, 114, 48, 32, 114, 49, 32, 49, 55]⟩ : ByteArray)).gA) == 2) && ((((parI (⟨#[109, 117, 108, 32, 114, 50, 32, 114, 48, 32, 114, 49, 32, 49, 55]⟩ : ByteArray)).gB) == 0) && ((((parI (⟨#[109, 117, 108, 32, 114, 50, 32, 114, 48, 32, 114, 49, 32, 49, 55]⟩ : ByteArray)).gC) == 1) && (((parI (⟨#[109, 117, 108, 32, 114, 50, 32, 114, 48, 32, 114, 49, 32, 49, 55]⟩ : ByteArray)).gK) == 17))))) = true := (by kernel_rfl)
 refine J.h 2 [] [] [] 30 (.bool ((((parI (⟨#[109, 117, 108, 32, 114, 50, 32, 114, 48, 32, 114, 49, 32, 49, 55]⟩ : ByteArray)).gOp) == 7) && ((((parI (⟨#[109, 117, 108, 32, 114, 50, 32, 114, 48, 32, 114, 49, 32, 49, 55]⟩ : ByteArray)).gA) == 2) && ((((parI (⟨#[109, 117, 108, 32, 114, 50, 32, 114, 48, 32, 114, 49, 32, 49, 55]⟩ : ByteArray)).gB) == 0) && ((((parI (⟨#[109, 117, 108, 32, 114, 50, 32, 114, 48, 32, 114, 49, 32, 49, 55]⟩ : ByteArray)).gC) == 1) && (((parI (⟨#[109, 117, 108, 32, 114, 50, 32, 114, 48, 32, 114, 49, 32, 49, 55]⟩ : ByteArray)).gK) == 17)))))) (.bool true) (congrArg Value.bool fk8) ?_
 refine J.lb 0 [] [] [] S6 1 rfl 31 (.agg (insA (parI (⟨#[109, 117, 108, 32, 114, 50, 32, 114, 48, 32, 114, 49, 32, 49, 55]⟩ : ByteArray)))) ?_
 refine J.c0 0 [] [] [] S6 32 hb21 (mtext_any (parI (⟨#[109, 117, 108, 32, 114, 50, 32, 114, 48, 32, 114, 49, 32, 49, 55]⟩ : ByteArray)) _ (insQ_sep hpi S6) (tabW_sep hW S6)) fun w7 S7 => ?_
 refine J.e 4 [.bool ((textI (parI (⟨#[109, 117, 108, 32, 114, 50, 32, 114, 48, 32, 114, 49, 32, 49, 55]⟩ : ByteArray))).toList == (⟨#[109, 117, 108, 32, 114, 50, 32, 114, 48, 32, 114, 49, 32, 49, 55]⟩ : ByteArray).toList)] Tryz.func7 (hR _ _ ?_)
 exact ⟨congrArg Value.bool (by kernel_rfl), S7.nil⟩

end Go.Proofs.YtaoolgcddapegaaGreatDoor

namespace Go.Proofs.YtaoolgcddapegaaGreatDoor
open Go.Eng Go.RowKit
set_option linter.unusedSimpArgs false
set_option linter.unusedVariables false
set_option maxRecDepth 20000
set_option maxHeartbeats 20000000
/-! one instruction changes little, and reads little -/
theorem getD_set_ne {l : List Int} {i j : Nat} {x : Int} (h : j ≠ i) : (l.set i x).getD j 0 = l.getD j 0 := by
  rw [List.getD_eq_getElem?_getD, List.getD_eq_getElem?_getD, List.getElem?_set_ne (fun e => h e.symm)]
theorem stR_len {p : Prg} {n : Nat} {rs cs : List Int} {k : Int} (h : rs.length = 16) : (stR p n rs cs k).length = 16 := by
  unfold stR; split
  · rw [exR_len]; exact h
  · rfl
theorem runR_len (p : Prg) (n : Nat) (l xs : List Int) : (runR p n l xs).length = 16 := by
  unfold runR; split
  · unfold rgS; rw [(rnF_len _ _ _ _).1]; rfl
  · rfl

theorem same_mx (rx ry : List Int) (la : Option Addr) (na ca : Nat) (xl : List Int) (lb : Option Addr) (nb cb : Nat) (yl : List Int) (w : World) (hx : rx.length = 16) (hy : ry.length = 16) (ha : Ints w la na xl) (hb : Ints w lb nb yl) (hla : na ≤ 9223372036854775807) : Ret Tryz.prog 11 #[.agg (mxA rx [.slice la na ca]), .agg (mxA ry [.slice lb nb cb])] w (fun v w' => v = .bool (sameR rx ry xl yl) ∧ Sep w [] w') := by
  obtain ⟨x0, x1, x2, x3, x4, x5, x6, x7, x8, x9, x10, x11, x12, x13, x14, x15, rfl⟩ := list16 hx
  obtain ⟨y0, y1, y2, y3, y4, y5, y6, y7, y8, y9, y10, y11, y12, y13, y14, y15, rfl⟩ := list16 hy
  exact same_any x0 x1 x2 x3 x4 x5 x6 x7 x8 x9 x10 x11 x12 x13 x14 x15 y0 y1 y2 y3 y4 y5 y6 y7 y8 y9 y10 y11 y12 y13 y14 y15 la na ca xl lb nb cb yl w ha hb hla
end Go.Proofs.YtaoolgcddapegaaGreatDoor

namespace Go.Proofs.YtaoolgcddapegaaGreatDoor
noncomputable section
open Go.Eng Go.RowKit
set_option linter.unusedSimpArgs false
set_option linter.unusedVariables false
set_option maxRecDepth 20000
set_option maxHeartbeats 20000000
def K4_0 := adv 104 [false, false, false, false] (bodyOf Tryz.f4)
def K4_1 := adv 17 [false] K4_0
def K4_2 := adv 39 [false, false] K4_1
theorem lawsingle_any (p : Prg) (rs : List Int) (la : Option Addr) (n c : Nat) (cs : List Int) (ia : Option Addr) (m ic : Nat) (xs : List Int) (w : World) (hrs : rs.length = 16) (hp : prgQ w p) (hI : Ints w la n cs) (hJ : Ints w ia m xs) (hW : TabW w) : Ret Tryz.prog 4 #[.agg (prgA p), .agg (mxA rs [.slice la n c]), .slice ia m ic] w (fun v w' => v = .bool true ∧ Sep w [] w') := by
 refine Ret.st (N := 171) Tryz.func4 fun R hR S0 => ?_
 obtain ⟨q1, q2, q3, q4, q5, q6, q7, q8, q9, q10, q11, q12, q13, q14, q15, q16, q17, q18, q19, q20, q21, q22, q23, q24, q25, _⟩ := id hp
 have ql1 := q2.len_eq
 have ql2 := q5.len_eq
 have ql3 := q8.len_eq
 have ql4 := q11.len_eq
 have ql5 := q15.len_eq
 have ql6 := q18.len_eq
 have ql7 := q21.len_eq
 have ql8 := q24.len_eq
 have hcl := hI.len_eq
 have hxl := hJ.len_eq
 refine J.nw 2 [] [] [] S0 3 (prgC p) 28 fun b1 w1 S1 => ?_
 refine J.new S1 4 (mxC rs [.slice la n c]) 31 (by kernel_rfl) ?_
 intro b2 w2 S2
 refine J.c0 5 [] [] [] S2 19 hb7 (awake_any  _ (tabW_sep hW S2)) fun w3 S3 => ?_
 refine J.lb 7 [false] [] [] S3 1 rfl 21 (.agg (prgA p)) ?_
 refine J.cf 0 [] [] [] 22 hb8 (great_any p _ (prgQ_sep hp S3)) ?_
 rintro _ w4 ⟨gb1, rfl, T1⟩
 have S4 : Sep w [box b2 (mxC rs [.slice la n c]) 31, box b1 (prgC p) 28] w4 := S3.trans T1
 refine J.b 1 [] [] [] 23 gb1 (fun fk1 => ?_) fun fk1 => ?_
 ·skip
  refine J.e 16 [.bool true] Tryz.func4 (hR _ _ ?_)
  exact ⟨rfl, S4.nil⟩
 refine J.r 1 [] [(24, .pointer (some ⟨b2, 16, none⟩))] [] ?_
 refine J.ok (OK.ldMt S4 0 rfl 25 26 16 (by assumption)) ?_
 refine J.c 4 [] [] [] 29 ((n : Int) > 120) (fun fk2 => ?_) fun fk2 => ?_
 ·skip
  refine J.e 10 [.bool true] Tryz.func4 (hR _ _ ?_)
  exact ⟨rfl, S4.nil⟩
 refine J.c 5 [] [] [] 33 ((m : Int) > 120) (fun fk3 => ?_) fun fk3 => ?_
 ·skip
  refine J.e 5 [.bool true] Tryz.func4 (hR _ _ ?_)
  exact ⟨rfl, S4.nil⟩
 refine J.lb 4 [false] [] [] S4 1 rfl 35 (.agg (prgA p)) ?_
 refine J.ok (OK.ldM S4 0 rfl 36 31 16 (by assumption)) ?_
 refine J.r 1 [] [(37, .slice ia m ic)] [] ?_
 refine J.cf 0 [] [] [] 38 hb9 (run_any p rs la n c cs ia m ic xs _ (by assumption) (prgQ_sep hp S4) (hI.sep S4) (hJ.sep S4) (by omega)) ?_
 rintro _ w5 ⟨ra1, rc1, ra2, rc2, rfl, T2⟩
 have S5 : Sep w [rowOf encI ra1 rc1 3 1 (runC p n cs xs), rowOf encI ra2 rc2 3 1 (runO p n cs xs), box b2 (mxC rs [.slice la n c]) 31, box b1 (prgC p) 28] w5 := S4.trans T2
 have := runR_len p n cs xs
 refine J.r 4 [] [(41, iv (rgE p n cs xs)), (40, .slice ra2 ((runO p n cs xs).length) rc2), (39, .agg (mxA (runR p n cs xs) [.slice ra1 ((runC p n cs xs).length) rc1]))] [] ?_
 refine J.new S5 7 (mxC (List.replicate 16 (0 : Int)) [.slice none 0 0]) 31 (by kernel_rfl) ?_
 intro b3 w6 S6
 refine J.stM S6 0 rfl 16 (runR p n cs xs) [.slice ra1 ((runC p n cs xs).length) rc1] rfl rfl (by assumption) fun w7 S7 => ?_
 refine J.c 9 [] [(9, iv (rgE p n cs xs)), (8, .slice ra2 ((runO p n cs xs).length) rc2)] [] 43 ((rgE p n cs xs) = 1) (fun fk4 => ?_) fun fk4 => ?_
 ·skip
  have hbad := rg_one fk4
  refine J.lb 3 [true] [] [] S7 4 rfl 44 (.agg (prgA p)) ?_
  refine J.c0 0 [] [] [] S7 45 hb10 (rpvalid_any p _ (prgQ_sep hp S7)) fun w8 S8 => ?_
  refine J.bn 2 [] [] [] 47 (validP p) (fun fk5 => ?_) fun fk5 => ?_
  ·skip
   refine J.r 1 [] [(48, .pointer (some ⟨b2, 16, none⟩))] [] ?_
   refine J.ok (OK.ldMt S8 3 rfl 49 26 16 (by assumption)) ?_
   refine J.lb 2 [] [(50, iv (n : Int))] [] S8 4 rfl 52 (iv p.gCells) ?_
   refine J.cn 3 [] [] [] 55 ((n : Int) = p.gCells) (fun fk6 => ?_) fun fk6 => ?_
   ·skip
    refine J.lb 3 [] [(57, iv (m : Int))] [] S8 4 rfl 59 (.slice p.gInputs_a p.gInputs_n p.gInputs_c) ?_
    refine J.e 5 [.bool ((m : Int) != (p.gInputs_n : Int))] Tryz.func4 (hR _ _ ?_)
    have fk7 : ¬ ((m : Int) = (p.gInputs_n : Int)) := fun h_ => hbad ⟨fk5, by omega, by omega⟩
    exact ⟨congrArg Value.bool (bne_iff_ne.2 fk7), S8.nil⟩
   refine J.e 9 [.bool true] Tryz.func4 (hR _ _ ?_)
   exact ⟨rfl, S8.nil⟩
  refine J.e 17 [.bool true] Tryz.func4 (hR _ _ ?_)
  exact ⟨rfl, S8.nil⟩
 obtain ⟨hv, hgn, hxm⟩ := rg_ne fk4
 obtain ⟨hv1, hv2, hv3, hv4, hv5, hv6, hv7, hv8, hv9, hv10, hv11⟩ := validP_facts hv
 have hin := (cellsL_at hv6).2
 have hou := (cellsL_at hv7).2
 have hon1 := (cellsL_at hv7).1
 have hin1 := (cellsL_at hv6).1
 refine J.lb 5 [false] [] [] S7 4 rfl 63 (.agg (prgA p)) ?_
 refine J.c0 0 [] [] [] S7 64 hb10 (rpvalid_any p _ (prgQ_sep hp S7)) fun w9 S9 => ?_
 have fk9 : (validP p) = true := hv
 refine J.h 2 [] [] [] 66 (.bool (!(validP p))) (.bool false) (congrArg Value.bool (by rw [fk9]; rfl)) ?_
 refine J.r 1 [] [(67, .pointer (some ⟨b2, 16, none⟩))] [] ?_
 refine J.ok (OK.ldMt S9 3 rfl 68 26 16 (by assumption)) ?_
 refine J.lb 2 [] [(69, iv (n : Int))] [] S9 4 rfl 71 (iv p.gCells) ?_
 refine J.cn 3 [] [] [] 74 ((n : Int) = p.gCells) (fun fk10 => ?_) fun fk10 => ?_
 ·skip
  refine J.lb 3 [] [(76, iv (m : Int))] [] S9 4 rfl 78 (.slice p.gInputs_a p.gInputs_n p.gInputs_c) ?_
  refine J.cn 4 [] [] [] 81 ((m : Int) = (p.gInputs_n : Int)) (fun fk11 => ?_) fun fk11 => ?_
  ·skip
   refine J.r 4 [false] [] [] ?_
   refine J.ok (OK.ldM S9 3 rfl 82 31 16 (by assumption)) ?_
   refine J.cf 0 [] [] [] 83 hb14 (rcopy_any rs la n c cs _ (by assumption) (hI.sep S9) (by omega)) ?_
   rintro _ w10 ⟨ra3, rc3, rfl, T3⟩
   have S10 : Sep w [rowOf encI ra3 rc3 3 1 cs, box b3 (mxC (runR p n cs xs) [.slice ra1 ((runC p n cs xs).length) rc1]) 31, rowOf encI ra1 rc1 3 1 (runC p n cs xs), rowOf encI ra2 rc2 3 1 (runO p n cs xs), box b2 (mxC rs [.slice la n c]) 31, box b1 (prgC p) 28] w10 := S9.trans T3
   refine J.new S10 10 (mxC (List.replicate 16 (0 : Int)) [.slice none 0 0]) 31 (by kernel_rfl) ?_
   intro b4 w11 S11
   refine J.stM S11 0 rfl 16 rs [.slice ra3 cs.length rc3] rfl rfl (by assumption) fun w12 S12 => ?_
   refine J.r 5 [] [(85, pv b4), (84, .agg #[iv 0, iv 0, iv 0, iv 0, iv 0, iv 0, iv 0, iv 0, iv 0, iv 0, iv 0, iv 0, iv 0, iv 0, iv 0, iv 0])] [] ?_
   refine J.stBox S12 0 29 0 (.agg #[iv 0, iv 0, iv 0, iv 0, iv 0, iv 0, iv 0, iv 0, iv 0, iv 0, iv 0, iv 0, iv 0, iv 0, iv 0, iv 0]) (mxC (List.replicate 16 (0 : Int)) [.slice ra3 cs.length rc3]) [box b4 (mxC (List.replicate 16 (0 : Int)) [.slice ra3 cs.length rc3]) 31, rowOf encI ra3 rc3 3 1 cs, box b3 (mxC (runR p n cs xs) [.slice ra1 ((runC p n cs xs).length) rc1]) 31, rowOf encI ra1 rc1 3 1 (runC p n cs xs), rowOf encI ra2 rc2 3 1 (runO p n cs xs), box b2 (mxC rs [.slice la n c]) 31, box b1 (prgC p) 28] (by kernel_rfl) rfl (by kernel_rfl) (stV_mr (l' := List.replicate 16 (0 : Int)) (List.length_replicate.trans (by first | exact Eq.symm (by assumption) | rfl | simp))) rfl ?_
   intro w13 S13
   refine J.lb 5 [] [] [] S13 6 rfl 87 (.slice p.gInputs_a p.gInputs_n p.gInputs_c) ?_
   have L4_1 : ∀ (mm_ : Nat) (cl : List Int) (k : Int) (w14 : World), (0 ≤ k) → (k ≤ (p.gInputs_n : Int)) → (cl = inC p cs xs (k).toNat) → Sep w [box b4 (mxC (List.replicate 16 (0 : Int)) [.slice ra3 cs.length rc3]) 31, rowOf encI ra3 rc3 3 1 cl, box b3 (mxC (runR p n cs xs) [.slice ra1 ((runC p n cs xs).length) rc1]) 31, rowOf encI ra1 rc1 3 1 (runC p n cs xs), rowOf encI ra2 rc2 3 1 (runO p n cs xs), box b2 (mxC rs [.slice la n c]) 31, box b1 (prgC p) 28] w14 → ((p.gInputs_n : Int) - k).toNat = mm_ → J Tryz.prog 4 171 R K4_0 [(89, iv k), (88, iv (p.gInputs_n : Int)), (87, .slice p.gInputs_a p.gInputs_n p.gInputs_c), (10, pv b4), (9, iv (rgE p n cs xs)), (8, .slice ra2 ((runO p n cs xs).length) rc2), (7, pv b3), (3, pv b1), (2, .slice ia m ic)] w14 := by
    intro mm1
    induction mm1 using Nat.strongRecOn with
    | _ mm1 ih1 =>
    intro cl k w14 k0 k1 hcl2 S14 hm1
    have hcn : cl.length = n := by rw [hcl2, inC_len]; exact hcl
    have hik : k < (p.gInputs_n : Int) → _ := fun h_ => hin k.toNat (by omega)
    refine J.c 5 [] [] [] 90 (k < (p.gInputs_n : Int)) (fun fk12 => ?_) fun fk12 => ?_
    ·skip
     refine J.r 7 [true] [(91, iv k)] [] ?_
     obtain ⟨p1, hp1, hc1⟩ := q15.at 0 (k).toNat (by omega)
     have hel1 := getD_Q q16 0 (n := (k).toNat) (by have := q15.len_eq; omega)
     refine J.ok (OK.index 92 26 1 p.gInputs_a p1 p.gInputs_n (k).toNat k (p1.add (k).toNat) (by kernel_rfl) (by kernel_rfl) hp1 (by omega) (by omega) (by rw [Nat.mul_one])) ?_
     refine J.ok (OK.ldCell 93 3 (p1.add (k).toNat) (iv (p.gInputs_l.getD (k).toNat 0)) (by kernel_rfl) (by kernel_rfl) (S14.cell hc1)) ?_
     refine J.r 3 [] [(12, iv (p.gInputs_l.getD (k).toNat 0)), (11, iv k)] [] ?_
     obtain ⟨p2, hp2, hc2⟩ := hJ.at 0 (k).toNat (by omega)
     obtain ⟨p3, hp3⟩ := row1_addr (S14.nth 1 rfl) (show 0 < (cl).length by first | omega | (simp; omega))
     refine J.drawTail S14 8 Tryz.mixed (by kernel_rfl) (by kernel_rfl) ?_
     intro w15 S15
     refine SL.r 94 (.pointer (some ⟨b4, 16, none⟩)) ?_
     refine SL.ok (by decide) (OK.ldMt S15 0 rfl 95 26 16 rfl) ?_
     refine SL.r 96 (iv (p.gInputs_l.getD (k).toNat 0)) ?_
     refine SL.r 97 (.slice ia m ic) ?_
     refine SL.r 98 (iv k) ?_
     refine SL.ok (by decide) (OK.index 99 26 1 ia p2 m (k).toNat k (p2.add (k).toNat) (by kernel_rfl) (by kernel_rfl) hp2 (by omega) (by omega) (by rw [Nat.mul_one])) ?_
     refine SL.ok (by decide) (OK.ldCell 100 3 (p2.add (k).toNat) (iv (xs.getD (k).toNat 0)) (by kernel_rfl) (by kernel_rfl) (S15.cell hc2)) ?_
     refine SL.ok (by decide) (OK.index 101 26 1 ra3 p3 cs.length (p.gInputs_l.getD (k).toNat 0).toNat (p.gInputs_l.getD (k).toNat 0) (p3.add (p.gInputs_l.getD (k).toNat 0).toNat) (by kernel_rfl) (by kernel_rfl) hp3 (by omega) (by first | omega | (simp; omega)) (by rw [Nat.mul_one])) ?_
     refine SL.done ?_
     refine TL.stRow1 (Value.int .i64) (int_one _) S15 1 cl 3 p3 (p.gInputs_l.getD (k).toNat 0).toNat (xs.getD (k).toNat 0) rfl (by kernel_rfl) hp3 (by first | omega | (simp; omega)) (by kernel_rfl) ?_
     intro w16 S16
     replace S16 : Sep w [box b4 (mxC (List.replicate 16 (0 : Int)) [.slice ra3 cs.length rc3]) 31, rowOf encI ra3 rc3 3 1 (cl.set (p.gInputs_l.getD (k).toNat 0).toNat (xs.getD (k).toNat 0)), box b3 (mxC (runR p n cs xs) [.slice ra1 ((runC p n cs xs).length) rc1]) 31, rowOf encI ra1 rc1 3 1 (runC p n cs xs), rowOf encI ra2 rc2 3 1 (runO p n cs xs), box b2 (mxC rs [.slice la n c]) 31, box b1 (prgC p) 28] w16 := S16
     refine TL.done (by kernel_rfl) ?_
     refine J.wi 3 [] [] [] 102 (k + 1) ?_
     exact J.t 3 (ih1 _ (show ((p.gInputs_n : Int) - (k + 1)).toNat < mm1 from by omega) (cl.set (p.gInputs_l.getD (k).toNat 0).toNat (xs.getD (k).toNat 0)) (k + 1) w16 (by omega) (by omega) (by rw [show (k + 1).toNat = k.toNat + 1 by omega, inC, ← hcl2]) S16 rfl)
    refine J.lb 6 [false] [] [] S14 6 rfl 104 (.slice p.gCode_a p.gCode_n p.gCode_c) ?_
    have L4_2 : ∀ (mm_ : Nat) (rl : List Int) (cl : List Int) (va : Option Addr) (vc : Nat) (nn : Nat) (k : Int) (w17 : World), (0 ≤ k) → (k ≤ (p.gCode_n : Int)) → (rl = (rnF p zR (inC p cs xs p.gInputs_n) (k).toNat).1) → (cl = (rnF p zR (inC p cs xs p.gInputs_n) (k).toNat).2) → (rnE p zR (inC p cs xs p.gInputs_n) (k).toNat = 0) → (nn = n) → Sep w [box b4 (mxC rl [.slice va nn vc]) 31, rowOf encI va vc 3 1 cl, box b3 (mxC (runR p n cs xs) [.slice ra1 ((runC p n cs xs).length) rc1]) 31, rowOf encI ra1 rc1 3 1 (runC p n cs xs), rowOf encI ra2 rc2 3 1 (runO p n cs xs), box b2 (mxC rs [.slice la n c]) 31, box b1 (prgC p) 28] w17 → ((p.gCode_n : Int) - k).toNat = mm_ → J Tryz.prog 4 171 R K4_1 [(106, iv k), (105, iv (p.gCode_n : Int)), (10, pv b4), (9, iv (rgE p n cs xs)), (8, .slice ra2 ((runO p n cs xs).length) rc2), (7, pv b3), (3, pv b1)] w17 := by
     intro mm2
     induction mm2 using Nat.strongRecOn with
     | _ mm2 ih2 =>
     intro rl cl va vc nn k w17 k0 k1 hrl hcl2 he hnn S17 hm2
     have hrn : rl.length = 16 := by rw [hrl, (rnF_len _ _ _ _).1]; rfl
     have hcn : cl.length = n := by rw [hcl2, (rnF_len _ _ _ _).2, inC_len]; exact hcl
     refine J.c 5 [] [] [] 107 (k < (p.gCode_n : Int)) (fun fk13 => ?_) fun fk13 => ?_
     ·skip
      refine J.lb 11 [true] [(13, iv k)] [] S17 6 rfl 110 (.agg (prgA p)) ?_
      refine J.ok (OK.ldM S17 0 rfl 111 31 16 (by assumption)) ?_
      have := rowOf_len (S17.nth 1 rfl)
      refine J.cf 1 [] [] [] 113 hb15 (step_any p rl va nn vc cl k _ (by assumption) (prgQ_sep hp S17) ((row1_ones (S17.nth 1 rfl) nn (by first | rfl | omega | simp))) (by omega)) ?_
      rintro _ w18 ⟨ra4, rc4, rfl, T4⟩
      have S18 : Sep w [rowOf encI ra4 rc4 3 1 (stC p nn rl (cl) k), box b4 (mxC rl [.slice va nn vc]) 31, rowOf encI va vc 3 1 cl, box b3 (mxC (runR p n cs xs) [.slice ra1 ((runC p n cs xs).length) rc1]) 31, rowOf encI ra1 rc1 3 1 (runC p n cs xs), rowOf encI ra2 rc2 3 1 (runO p n cs xs), box b2 (mxC rs [.slice la n c]) 31, box b1 (prgC p) 28] w18 := S17.trans T4
      have := stR_len (p := p) (n := nn) (cs := cl) (k := k) hrn
      have hse : stE p nn rl k = exE p (p.gCode_l.getD (k).toNat ins0) rl := st_run (goodP_iff.2 ⟨hv, by omega⟩) (by omega) (by omega)
      refine J.r 4 [] [(116, iv (stE p nn rl k)), (115, iv (stN p nn rl k)), (114, .agg (mxA (stR p nn rl (cl) k) [.slice ra4 ((stC p nn rl (cl) k).length) rc4]))] [] ?_
      refine J.new S18 14 (mxC (List.replicate 16 (0 : Int)) [.slice none 0 0]) 31 (by kernel_rfl) ?_
      intro b5 w19 S19
      refine J.stM S19 0 rfl 16 (stR p nn rl (cl) k) [.slice ra4 ((stC p nn rl (cl) k).length) rc4] rfl rfl (by assumption) fun w20 S20 => ?_
      refine J.cn 9 [] [(16, iv (stE p nn rl k)), (15, iv (stN p nn rl k))] [] 118 ((stE p nn rl k) = 0) (fun fk14 => ?_) fun fk14 => ?_
      ·skip
       obtain ⟨e1, e2, e3⟩ := st_ok (cs := cl) fk14
       have hse2 : exE p (p.gCode_l.getD (k).toNat ins0) rl = 0 := hse.symm.trans fk14
       have hn3 : (stC p nn rl cl k).length = n := by rw [e2, exC_len]; exact hcn
       refine J.wi 8 [false] [(122, iv (stN p nn rl k))] [] 124 (k + 1) ?_
       have fk16 : (stN p nn rl k) = (k + 1) := e3
       refine J.h 2 [] [] [] 126 (.bool ((stN p nn rl k) != (k + 1))) (.bool false) (congrArg Value.bool (bne_eq_false_iff_eq.2 fk16)) ?_
       refine J.r 1 [] [(127, .pointer (some ⟨b5, 16, none⟩))] [] ?_
       refine J.ok (OK.ldMt S20 0 rfl 128 26 16 (by assumption)) ?_
       refine J.lb 2 [] [(129, iv ((stC p nn rl (cl) k).length : Int))] [] S20 8 rfl 131 (iv p.gCells) ?_
       refine J.cn 3 [] [] [] 133 (((stC p nn rl (cl) k).length : Int) = p.gCells) (fun fk17 => ?_) fun fk17 => ?_
       ·skip
        refine J.r 3 [false] [] [] ?_
        refine J.ok (OK.ldM S20 0 rfl 134 31 16 (by assumption)) ?_
        refine J.stM S20 2 rfl 16 (stR p nn rl (cl) k) [.slice ra4 ((stC p nn rl (cl) k).length) rc4] rfl (by assumption) (by assumption) fun w21 S21 => ?_
        refine J.wi 4 [] [] [] 135 (k + 1) ?_
        have S22 : Sep w [rowOf encI ra4 rc4 3 1 (stC p nn rl (cl) k), box b4 (mxC (stR p nn rl (cl) k) [.slice ra4 ((stC p nn rl (cl) k).length) rc4]) 31, box b3 (mxC (runR p n cs xs) [.slice ra1 ((runC p n cs xs).length) rc1]) 31, rowOf encI ra1 rc1 3 1 (runC p n cs xs), rowOf encI ra2 rc2 3 1 (runO p n cs xs), box b2 (mxC rs [.slice la n c]) 31, box b1 (prgC p) 28] w21 := ((S21.erase 3).erase 0).front 0 rfl
        have S23 : Sep w [box b4 (mxC (stR p nn rl (cl) k) [.slice ra4 ((stC p nn rl (cl) k).length) rc4]) 31, rowOf encI ra4 rc4 3 1 (stC p nn rl (cl) k), box b3 (mxC (runR p n cs xs) [.slice ra1 ((runC p n cs xs).length) rc1]) 31, rowOf encI ra1 rc1 3 1 (runC p n cs xs), rowOf encI ra2 rc2 3 1 (runO p n cs xs), box b2 (mxC rs [.slice la n c]) 31, box b1 (prgC p) 28] w21 := S22.front 1 rfl
        exact J.t 3 (ih2 _ (show ((p.gCode_n : Int) - (k + 1)).toNat < mm2 from by omega) (stR p nn rl (cl) k) (stC p nn rl (cl) k) ra4 rc4 ((stC p nn rl (cl) k).length) (k + 1) w21 (by omega) (by omega) (by rw [e1, show (k + 1).toNat = k.toNat + 1 by omega]; exact (rn_step hrl hcl2).1) (by rw [e2, show (k + 1).toNat = k.toNat + 1 by omega]; exact (rn_step hrl hcl2).2) (by rw [show (k + 1).toNat = k.toNat + 1 by omega, rn_err hrl he]; exact hse2) (hn3) S23 rfl)
       refine J.e 5 [.bool false] Tryz.func4 (hR _ _ ?_)
       exfalso
       omega
      refine J.e 8 [.bool ((rgE p n cs xs) == (stE p nn rl k))] Tryz.func4 (hR _ _ ?_)
      have fk18 : (rgE p n cs xs) = (stE p nn rl k) := (rg_in hv hgn (by omega)).trans ((rn_fin hrl he rfl (by rw [← hse]; exact fk14) (by omega)).trans hse.symm)
      exact ⟨congrArg Value.bool (beq_iff_eq.2 fk18), S20.nil⟩
     have hrg : rgE p n cs xs = 0 := (rg_in hv hgn (by omega)).trans (by rw [show p.gCode_n = k.toNat by omega]; exact he)
     obtain ⟨g1, g2, g3⟩ := run_ok hrg
     have g5 : rgS p cs xs = (rl, cl) := by unfold rgS; rw [show p.gCode_n = k.toNat by omega, hrl, hcl2]
     rw [g5] at g1 g2 g3
     have g6 : (runO p n cs xs).length = p.gOutputs_n := by rw [g3]; exact outC_len (by omega)
     have fk20 : (rgE p n cs xs) = 0 := hrg
     refine J.h 8 [false] [] [] 138 (.bool ((rgE p n cs xs) != 0)) (.bool false) (congrArg Value.bool (bne_eq_false_iff_eq.2 fk20)) ?_
     refine J.ok (OK.ldM S17 0 rfl 139 31 16 (by assumption)) ?_
     refine J.ok (OK.ldM S17 2 rfl 140 31 16 (by assumption)) ?_
     have := rowOf_len (S17.nth 1 rfl)
     have := rowOf_len (S17.nth 3 rfl)
     refine J.c0 0 [] [] [] S17 141 hb11 (same_mx rl (runR p n cs xs) va nn vc cl ra1 ((runC p n cs xs).length) rc1 (runC p n cs xs) _ (by assumption) (by assumption) ((row1_ones (S17.nth 1 rfl) nn (by first | rfl | omega | simp))) ((row1_ones (S17.nth 3 rfl) ((runC p n cs xs).length) (by first | rfl | omega | simp))) (by first | omega | (simp; omega))) fun w22 S24 => ?_
     have fk22 : (sameR rl (runR p n cs xs) cl (runC p n cs xs)) = true := by rw [g1, g2]; exact sameR_refl _ _
     refine J.h 3 [] [] [] 144 (.bool (!(sameR rl (runR p n cs xs) cl (runC p n cs xs)))) (.bool false) (congrArg Value.bool (by rw [fk22]; rfl)) ?_
     refine J.lb 3 [] [(146, iv ((runO p n cs xs).length : Int))] [] S24 6 rfl 148 (.slice p.gOutputs_a p.gOutputs_n p.gOutputs_c) ?_
     refine J.cn 4 [] [] [] 151 (((runO p n cs xs).length : Int) = (p.gOutputs_n : Int)) (fun fk23 => ?_) fun fk23 => ?_
     ·skip
      refine J.lb 6 [false] [] [] S24 6 rfl 153 (.slice p.gOutputs_a p.gOutputs_n p.gOutputs_c) ?_
      have L4_3 : ∀ (mm_ : Nat) (k2 : Int) (w23 : World), (0 ≤ k2) → (k2 ≤ (p.gOutputs_n : Int)) → Sep w [box b4 (mxC rl [.slice va nn vc]) 31, rowOf encI va vc 3 1 cl, box b3 (mxC (runR p n cs xs) [.slice ra1 ((runC p n cs xs).length) rc1]) 31, rowOf encI ra1 rc1 3 1 (runC p n cs xs), rowOf encI ra2 rc2 3 1 (runO p n cs xs), box b2 (mxC rs [.slice la n c]) 31, box b1 (prgC p) 28] w23 → ((p.gOutputs_n : Int) - k2).toNat = mm_ → J Tryz.prog 4 171 R K4_2 [(155, iv k2), (154, iv (p.gOutputs_n : Int)), (153, .slice p.gOutputs_a p.gOutputs_n p.gOutputs_c), (10, pv b4), (8, .slice ra2 ((runO p n cs xs).length) rc2)] w23 := by
       intro mm3
       induction mm3 using Nat.strongRecOn with
       | _ mm3 ih3 =>
       intro k2 w23 j0 j1 S25 hm3
       have hok : k2 < (p.gOutputs_n : Int) → _ := fun h_ => hou k2.toNat (by omega)
       refine J.c 5 [] [] [] 156 (k2 < (p.gOutputs_n : Int)) (fun fk24 => ?_) fun fk24 => ?_
       ·skip
        refine J.r 7 [true] [(157, iv k2)] [] ?_
        obtain ⟨p4, hp4, hc3⟩ := q21.at 0 (k2).toNat (by omega)
        have hel2 := getD_Q q22 0 (n := (k2).toNat) (by have := q21.len_eq; omega)
        refine J.ok (OK.index 158 26 1 p.gOutputs_a p4 p.gOutputs_n (k2).toNat k2 (p4.add (k2).toNat) (by kernel_rfl) (by kernel_rfl) hp4 (by omega) (by omega) (by rw [Nat.mul_one])) ?_
        refine J.ok (OK.ldCell 159 3 (p4.add (k2).toNat) (iv (p.gOutputs_l.getD (k2).toNat 0)) (by kernel_rfl) (by kernel_rfl) (S25.cell hc3)) ?_
        refine J.r 4 [] [(18, iv (p.gOutputs_l.getD (k2).toNat 0)), (17, iv k2)] [] ?_
        obtain ⟨p5, hp5⟩ := row1_addr (S25.nth 4 rfl) (show 0 < (runO p n cs xs).length by first | omega | (simp; omega))
        obtain ⟨p6, hp6⟩ := row1_addr (S25.nth 1 rfl) (show 0 < (cl).length by first | omega | (simp; omega))
        refine J.drawStill S25 10 Tryz.mixed (by kernel_rfl) (by kernel_rfl) (by kernel_rfl) ?_
        intro w24 S26
        refine SL.r 160 (.slice ra2 ((runO p n cs xs).length) rc2) ?_
        refine SL.r 161 (iv k2) ?_
        refine SL.ok (by decide) (OK.index 162 26 1 ra2 p5 ((runO p n cs xs).length) (k2).toNat k2 (p5.add (k2).toNat) (by kernel_rfl) (by kernel_rfl) hp5 (by omega) (by first | omega | (simp; omega)) (by rw [Nat.mul_one])) ?_
        refine SL.ok (by decide) (OK.ldCell 163 3 (p5.add (k2).toNat) (iv ((runO p n cs xs).getD (k2).toNat 0)) (by kernel_rfl) (by kernel_rfl) (row1_cell (g := (Value.int .i64)) S26 4 rfl hp5 0 (k2).toNat (by first | omega | (simp; omega)))) ?_
        refine SL.r 164 (.pointer (some ⟨b4, 16, none⟩)) ?_
        refine SL.ok (by decide) (OK.ldMt S26 0 rfl 165 26 16 (by assumption)) ?_
        refine SL.r 166 (iv (p.gOutputs_l.getD (k2).toNat 0)) ?_
        refine SL.ok (by decide) (OK.index 167 26 1 va p6 nn (p.gOutputs_l.getD (k2).toNat 0).toNat (p.gOutputs_l.getD (k2).toNat 0) (p6.add (p.gOutputs_l.getD (k2).toNat 0).toNat) (by kernel_rfl) (by kernel_rfl) hp6 (by omega) (by first | omega | (simp; omega)) (by rw [Nat.mul_one])) ?_
        refine SL.ok (by decide) (OK.ldCell 168 3 (p6.add (p.gOutputs_l.getD (k2).toNat 0).toNat) (iv (cl.getD (p.gOutputs_l.getD (k2).toNat 0).toNat 0)) (by kernel_rfl) (by kernel_rfl) (row1_cell (g := (Value.int .i64)) S26 1 rfl hp6 0 (p.gOutputs_l.getD (k2).toNat 0).toNat (by first | omega | (simp; omega)))) ?_
        refine SL.r 169 (.bool (((runO p n cs xs).getD (k2).toNat 0) != (cl.getD (p.gOutputs_l.getD (k2).toNat 0).toNat 0))) ?_
        refine SL.done ?_
        refine TL.done (by kernel_rfl) ?_
        have fk26 : ((runO p n cs xs).getD (k2).toNat 0) = (cl.getD (p.gOutputs_l.getD (k2).toNat 0).toNat 0) := by rw [g3]; exact outC_at (by omega) (by omega)
        refine J.h 0 [] [] [] 169 (.bool (((runO p n cs xs).getD (k2).toNat 0) != (cl.getD (p.gOutputs_l.getD (k2).toNat 0).toNat 0))) (.bool false) (congrArg Value.bool (bne_eq_false_iff_eq.2 fk26)) ?_
        refine J.wi 5 [false] [] [] 170 (k2 + 1) ?_
        exact J.t 3 (ih3 _ (show ((p.gOutputs_n : Int) - (k2 + 1)).toNat < mm3 from by omega) (k2 + 1) w24 (by omega) (by omega) S26 rfl)
       refine J.e 6 [.bool true] Tryz.func4 (hR _ _ ?_)
       exact ⟨rfl, S25.nil⟩
      exact J.t 5 (L4_3 _ 0 w22 (by omega) (by omega) S24 rfl)
     refine J.e 5 [.bool false] Tryz.func4 (hR _ _ ?_)
     exfalso
     omega
    exact J.t 5 (L4_2 _ (List.replicate 16 (0 : Int)) cl ra3 rc3 cs.length 0 w14 (by omega) (by omega) (rfl) (hcl2.trans (by rw [show k.toNat = p.gInputs_n by omega]; rfl)) (rfl) (hcl) S14 rfl)
   exact J.t 5 (L4_1 _ cs 0 w13 (by omega) (by omega) (rfl) S13 rfl)
  refine J.e 5 [.bool false] Tryz.func4 (hR _ _ ?_)
  exfalso
  omega
 refine J.e 13 [.bool false] Tryz.func4 (hR _ _ ?_)
 exfalso
 omega

end
end Go.Proofs.YtaoolgcddapegaaGreatDoor

