/- Walks of functions of this seat, printed by a program over the engine. Conditions: as each theorem says. -/
import Derived.Test.YtaoolgcddapegaaGreatDoorZlF41
import Derived.Test.YtaoolgcddapegaaGreatDoorZlX25
namespace Go.Proofs.YtaoolgcddapegaaGreatDoor
noncomputable section
open Go.Eng Go.RowKit
set_option linter.unusedSimpArgs false
set_option linter.unusedVariables false
set_option maxRecDepth 20000
set_option maxHeartbeats 20000000
abbrev kvW31_1 : List Value := [iv 0, iv 0, iv 0, iv 0, iv 0]
theorem hb19 : HasBody Tryz.prog 19 := fun _ _ => by kernel_rfl
def K19_0 := adv 23 [false] (rRest (adv 30 [false] (bodyOf Tryz.f19)))
theorem mparse_any (s : ByteArray) (w : World) (hs : s.size ≤ 1000000) (hW : TabW w) : Ret Tryz.prog 19 #[.string s] w (fun v w' => v = .tuple #[.agg #[iv (parI s).gOp, iv (parI s).gA, iv (parI s).gB, iv (parI s).gC, iv (parI s).gK], iv (parIE s)] ∧ Sep w [] w') := by
 refine Ret.st (N := 89) Tryz.func19 fun R hR S0 => ?_
 have hrl_ := rows_len
 have hpl_ := pieces_len 32 s
 have hpp_ := List.length_pos_iff.2 (splitOn_ne 32 (ls s))
 refine J.nw 2 [] [] [] S0 2 kvW31_1 48 fun b1 w1 S1 => ?_
 refine J.c 9 [] [] [] 14 ((s.size : Int) > 100) (fun fk1 => ?_) fun fk1 => ?_
 ·skip
  refine J.sb 4 [true] [] [] S1 0 rfl kvW31_1 rfl fun w2 S2 => ?_
  refine J.r 2 [] [(3, iv 5)] [] ?_
  refine J.ret Tryz.f19 [.agg #[iv 0, iv 0, iv 0, iv 0, iv 0], iv 5] Tryz.func19 ⟨⟨⟨b1, 0, none⟩, by kernel_rfl, ldV_run (S2.nth 0 rfl) (by kernel_rfl)⟩, by kernel_rfl, trivial⟩ ?_
  refine hR _ _ ?_
  obtain ⟨e1, e2⟩ := par_long (s := s) (by omega)
  exact ⟨by rw [e1, e2]; rfl, S2.nil⟩
 refine J.r 5 [false] [(16, .string s)] [] ?_
 refine J.callF 17 50 #[.string s, .string ⟨#[32]⟩] hb50 (by kernel_rfl) (split32_any s _ (by omega) (tabW_sep hW S1)) ?_
 rintro _ w3 ⟨b2, rfl, T1⟩
 have S3 : Sep w [box b2 ((piecesB 32 s).map Value.string) 9, box b1 kvW31_1 48] w3 := S1.trans T1
 have := splitOn_bound 32 (ls s); have := pieces_len 32 s; have := ls_length s
 refine J.nw 0 [] [] [] S3 4 [.slice none 0 0] 104 fun b3 w4 S4 => ?_
 refine J.sb 0 [] [] [] S4 0 rfl [.slice (some ⟨b2, 0, none⟩) ((piecesB 32 s).length) ((piecesB 32 s).length)] rfl fun w5 S5 => ?_
 refine J.r 3 [] [] [] ?_
 refine J.callF 18 52 #[] hb52 (by kernel_rfl) (rows_any _) ?_
 rintro _ w6 ⟨b4, rfl, T2⟩
 have S6 : Sep w [box b4 (rowsL.flatMap rwoE) 109, box b3 [.slice (some ⟨b2, 0, none⟩) ((piecesB 32 s).length) ((piecesB 32 s).length)] 104, box b2 ((piecesB 32 s).map Value.string) 9, box b1 kvW31_1 48] w6 := S5.trans T2
 refine J.r 1 [] [(19, .func (.func 53) #[] #[pv b3])] [] ?_
 refine J.callF 20 51 #[.slice (some ⟨b4, 0, none⟩) 23 23, .func (.func 53) #[] #[pv b3]] hb51 (by kernel_rfl) (indexRW1 (some ⟨b4, 0, none⟩) 23 23 rowsL 53 (pv b3) (fun r : Rwo => r.gname.toList == ((piecesB 32 s).getD 0 ByteArray.empty).toList) _ ((show Recs rwoE 3 w6 (some ⟨b4, 0, none⟩) 23 (rowsL : List Rwo) from ⟨rfl, fun _ => rfl, by decide, box_cells (S6.nth 0 rfl)⟩)) (by first | omega | (simp; omega)) hb53 (fun i_ w_ hi_ S_ => parse1_any _ b3 (some ⟨b2, 0, none⟩) ((piecesB 32 s).length) ((piecesB 32 s).length) (piecesB 32 s) w_ ((box_ones (S6.nth 2 rfl) ((piecesB 32 s).length) rfl).sep S_) (by omega) (box_keep (S6.nth 1 rfl) S_))) ?_
 rintro _ w7 ⟨rfl, T3⟩
 have S7 : Sep w [box b4 (rowsL.flatMap rwoE) 109, box b3 [.slice (some ⟨b2, 0, none⟩) ((piecesB 32 s).length) ((piecesB 32 s).length)] 104, box b2 ((piecesB 32 s).map Value.string) 9, box b1 kvW31_1 48] w7 := S6.trans T3
 obtain ⟨op, hop⟩ : ∃ x : Int, x = indexF (fun r : Rwo => r.gname.toList == ((piecesB 32 s).getD 0 ByteArray.empty).toList) rowsL := ⟨_, rfl⟩
 refine J.head (iv op) (congrArg (Value.int .i64) hop.symm) ?_
 obtain ⟨hix1, hix2, hix3, hix4⟩ := index_rows ((piecesB 32 s).getD 0 ByteArray.empty)
 rw [← hop] at hix1 hix2 hix3 hix4
 have hop2 := hix4
 refine J.r 4 [] [(5, iv op)] [] ?_
 by_cases fk2 : op < 1
 ·skip
  refine J.drawPlan (fun w_ => Sep w [box b4 (rowsL.flatMap rwoE) 109, box b3 [.slice (some ⟨b2, 0, none⟩) ((piecesB 32 s).length) ((piecesB 32 s).length)] 104, box b2 ((piecesB 32 s).map Value.string) 9, box b1 kvW31_1 48] w_) [(0, true), (1, true), (2, true), (3, true), (4, true), (5, true), (6, true), (7, true), (8, true), (9, true), (10, true), (11, true), (12, true), (13, true)] S7 Tryz.mixed (by kernel_rfl) (planOK_of (T := [(0, some 21, 32), (1, some 22, 2097152), (2, some 23, 4194304), (4, some 24, 8388624), (12, some 25, 25165824), (4, some 26, 8388608), (4, some 27, 8388640), (100, some 28, 209715200), (132, some 29, 276824064), (260, some 30, 545259520), (516, some 31, 1082130432), (1028, some 32, 2155872256), (2068, some 33, 4336910336), (4100, some 34, 8598323200)]) (by kernel_rfl) (by kernel_rfl)) ?_
  intro w8 S8
  refine PB.mk S8 ?_
  refine PL.take 0 21 (iv op) (fun _ _ => by kernel_rfl) ?_
  refine PL.take 1 22 (.bool (decide (op < 1))) (fun _ _ => by kernel_rfl) ?_
  refine PL.head (.bool true) (congrArg Value.bool (decide_eq_true fk2)) ?_
  refine PL.take 2 23 (.bool true) (fun _ _ => by kernel_rfl) ?_
  refine PL.takePass 3 (some 24) (by kernel_rfl) ?_
  refine PL.takePass 4 (some 25) (by kernel_rfl) ?_
  refine PL.takePass 5 (some 26) (by kernel_rfl) ?_
  refine PL.takePass 6 (some 27) (by kernel_rfl) ?_
  refine PL.takePass 7 (some 28) (by kernel_rfl) ?_
  refine PL.takePass 8 (some 29) (by kernel_rfl) ?_
  refine PL.takePass 9 (some 30) (by kernel_rfl) ?_
  refine PL.takePass 10 (some 31) (by kernel_rfl) ?_
  refine PL.takePass 11 (some 32) (by kernel_rfl) ?_
  refine PL.takePass 12 (some 33) (by kernel_rfl) ?_
  refine PL.take 13 34 (.bool true) (fun _ _ => by kernel_rfl) ?_
  refine PL.done ?_
  refine J.sb 4 [true] [] [] S8 3 rfl kvW31_1 rfl fun w9 S9 => ?_
  refine J.r 2 [] [(3, iv 3)] [] ?_
  refine J.ret Tryz.f19 [.agg #[iv 0, iv 0, iv 0, iv 0, iv 0], iv 3] Tryz.func19 ⟨⟨⟨b1, 0, none⟩, by kernel_rfl, ldV_run (S9.nth 3 rfl) (by kernel_rfl)⟩, by kernel_rfl, trivial⟩ ?_
  refine hR _ _ ?_
  obtain ⟨e1, e2⟩ := mat_none (s := s) (by omega) (readI_not rfl (by first | exact .inl (by omega) | exact .inr (by rw [hop2 (by omega), ← (rows_at (op := op) (by omega)).2.1]; omega)))
  exact ⟨by rw [e1, e2]; rfl, S9.nil⟩
 have hrz0 := rows_size (op := op) (by omega)
 refine J.drawPlan (fun w_ => Sep w [box b4 (rowsL.flatMap rwoE) 109, box b3 [.slice (some ⟨b2, 0, none⟩) ((piecesB 32 s).length) ((piecesB 32 s).length)] 104, box b2 ((piecesB 32 s).map Value.string) 9, box b1 kvW31_1 48] w_) [(0, true), (1, true), (2, true), (3, true), (4, true), (6, true), (5, false), (7, true), (8, true), (9, false), (10, true), (11, true), (12, true), (13, true)] S7 Tryz.mixed (by kernel_rfl) (planOK_of (T := [(0, some 21, 32), (1, some 22, 2097152), (2, some 23, 4194304), (4, some 24, 8388624), (12, some 25, 25165824), (4, some 26, 8388608), (4, some 27, 8388640), (100, some 28, 209715200), (132, some 29, 276824064), (260, some 30, 545259520), (516, some 31, 1082130432), (1028, some 32, 2155872256), (2068, some 33, 4336910336), (4100, some 34, 8598323200)]) (by kernel_rfl) (by kernel_rfl)) ?_
 intro w10 S10
 refine PB.mk S10 ?_
 refine PL.take 0 21 (iv op) (fun _ _ => by kernel_rfl) ?_
 refine PL.take 1 22 (.bool (decide (op < 1))) (fun _ _ => by kernel_rfl) ?_
 refine PL.head (.bool false) (congrArg Value.bool (decide_eq_false fk2)) ?_
 refine PL.take 2 23 (.bool false) (fun _ _ => by kernel_rfl) ?_
 refine PL.takeOK 3 (fun w_ S_ => OK.ldBox S_ 1 24 104 0 (.slice (some ⟨b2, 0, none⟩) ((piecesB 32 s).length) ((piecesB 32 s).length)) (by kernel_rfl) rfl (by kernel_rfl)) rfl ?_
 refine PL.take 4 25 (iv ((piecesB 32 s).length : Int)) (fun _ _ => by kernel_rfl) ?_
 refine PL.take 6 27 (iv op) (fun _ _ => by kernel_rfl) ?_
 refine PL.callF 26 52 #[] hb52 (by kernel_rfl) (rows_any _) ?_
 rintro _ w11 ⟨bd5, rfl, T4⟩
 have S11 : Sep w [box bd5 (rowsL.flatMap rwoE) 109, box b4 (rowsL.flatMap rwoE) 109, box b3 [.slice (some ⟨b2, 0, none⟩) ((piecesB 32 s).length) ((piecesB 32 s).length)] 104, box b2 ((piecesB 32 s).map Value.string) 9, box b1 kvW31_1 48] w11 := S10.trans T4
 clear T4 S10
 refine PB.mk (S11.erase 0) ?_
 refine PL.takeOK 7 (fun w_ S_ => OK.index 28 107 3 (some ⟨bd5, 0, none⟩) ⟨bd5, 0, none⟩ 23 (op).toNat op ⟨bd5, ((op).toNat) * 3, none⟩ (by kernel_rfl) (by kernel_rfl) rfl (by omega) (by first | omega | (simp; omega)) (by rw [add_block, Nat.zero_add])) rfl ?_
 refine PL.take 8 29 (.pointer (some ⟨bd5, ((op).toNat) * 3 + 1, none⟩)) (fun _ _ => by kernel_rfl) ?_
 refine PL.ok (OK.ldCell 30 9 ⟨bd5, ((op).toNat) * 3 + 1, none⟩ (.string ((rowsL.getD ((op).toNat) rwo0).gfields)) (by kernel_rfl) (by kernel_rfl) (box_rec_one (s := 3) (S11.nth 0 rfl) (fun _ => rfl) (by decide) rwo0 ((op).toNat) (by first | omega | (simp; omega)) 1 _ rfl)) ?_
 refine PB.mk (S11.erase 0) ?_
 refine PL.take 10 31 (iv (((rowsL.getD ((op).toNat) rwo0).gfields).size : Int)) (fun _ _ => by kernel_rfl) ?_
 refine PL.take 11 32 (iv (IntKind.wrap .i64 (1 + (((rowsL.getD ((op).toNat) rwo0).gfields).size : Int)))) (fun _ _ => by kernel_rfl) ?_
 refine PL.head (iv (1 + (((rowsL.getD ((op).toNat) rwo0).gfields).size : Int))) (congrArg (Value.int .i64) (IntWalk.i64_in _ (by omega))) ?_
 refine PL.take 12 33 (.bool (((piecesB 32 s).length : Int) != (1 + (((rowsL.getD ((op).toNat) rwo0).gfields).size : Int)))) (fun _ _ => by kernel_rfl) ?_
 refine PL.take 13 34 (.bool (((piecesB 32 s).length : Int) != (1 + (((rowsL.getD ((op).toNat) rwo0).gfields).size : Int)))) (fun _ _ => by kernel_rfl) ?_
 refine PL.done ?_
 refine J.cn 0 [] [] [] 34 (((piecesB 32 s).length : Int) = (1 + (((rowsL.getD ((op).toNat) rwo0).gfields).size : Int))) (fun fk3 => ?_) fun fk3 => ?_
 ·skip
  refine J.nw 6 [false] [(37, .agg #[iv op, iv 0, iv 0, iv 0, iv 0])] [] S11 6 kvW31_1 48 fun b5 w12 S12 => ?_
  refine J.sb 0 [] [] [] S12 0 rfl [iv op, iv 0, iv 0, iv 0, iv 0] rfl fun w13 S13 => ?_
  refine J.r 4 [] [] [] ?_
  refine J.callF 38 52 #[] hb52 (by kernel_rfl) (rows_any _) ?_
  rintro _ w14 ⟨b6, rfl, T5⟩
  have S14 : Sep w [box b6 (rowsL.flatMap rwoE) 109, box b5 [iv op, iv 0, iv 0, iv 0, iv 0] 48, box bd5 (rowsL.flatMap rwoE) 109, box b4 (rowsL.flatMap rwoE) 109, box b3 [.slice (some ⟨b2, 0, none⟩) ((piecesB 32 s).length) ((piecesB 32 s).length)] 104, box b2 ((piecesB 32 s).map Value.string) 9, box b1 kvW31_1 48] w14 := S13.trans T5
  refine J.r 1 [] [(39, iv op)] [] ?_
  refine J.ok (OK.index 40 107 3 (some ⟨b6, 0, none⟩) ⟨b6, 0, none⟩ 23 (op).toNat op ⟨b6, ((op).toNat) * 3, none⟩ (by kernel_rfl) (by kernel_rfl) rfl (by omega) (by first | omega | (simp; omega)) (by rw [add_block, Nat.zero_add])) ?_
  refine J.r 1 [] [(41, .pointer (some ⟨b6, ((op).toNat) * 3 + 1, none⟩))] [] ?_
  refine J.ok (OK.ldCell 42 9 ⟨b6, ((op).toNat) * 3 + 1, none⟩ (.string ((rowsL.getD ((op).toNat) rwo0).gfields)) (by kernel_rfl) (by kernel_rfl) (box_rec_one (s := 3) (S14.nth 0 rfl) (fun _ => rfl) (by decide) rwo0 ((op).toNat) (by first | omega | (simp; omega)) 1 _ rfl)) ?_
  refine J.strBytes S14 43 9 52 5 ((rowsL.getD ((op).toNat) rwo0).gfields) (by kernel_rfl) (by kernel_rfl) ?_
  intro b7 cq1 w15 S15
  have L19_1 : ∀ (mm_ : Nat) (a : Int) (b : Int) (c : Int) (q : Int) (k : Int) (w16 : World), (0 ≤ k) → (k ≤ (((rowsL.getD ((op).toNat) rwo0).gfields).size : Int)) → ((-9223372036854775808 ≤ a ∧ a ≤ 9223372036854775807) ∧ (-9223372036854775808 ≤ b ∧ b ≤ 9223372036854775807) ∧ (-9223372036854775808 ≤ c ∧ c ≤ 9223372036854775807) ∧ (-9223372036854775808 ≤ q ∧ q ≤ 9223372036854775807)) → (atW matW s op k (⟨op, a, b, c, q⟩ : Ins)) → Sep w [rows8 b7 ((rowsL.getD ((op).toNat) rwo0).gfields), box b6 (rowsL.flatMap rwoE) 109, box b5 [iv op, iv a, iv b, iv c, iv q] 48, box bd5 (rowsL.flatMap rwoE) 109, box b4 (rowsL.flatMap rwoE) 109, box b3 [.slice (some ⟨b2, 0, none⟩) ((piecesB 32 s).length) ((piecesB 32 s).length)] 104, box b2 ((piecesB 32 s).map Value.string) 9, box b1 kvW31_1 48] w16 → ((((rowsL.getD ((op).toNat) rwo0).gfields).size : Int) - k).toNat = mm_ → J Tryz.prog 19 89 R K19_0 [(45, iv k), (44, iv (((rowsL.getD ((op).toNat) rwo0).gfields).size : Int)), (43, .slice (some ⟨b7, 0, none⟩) (((rowsL.getD ((op).toNat) rwo0).gfields).size) cq1), (6, pv b5), (4, pv b3), (2, pv b1), (0, .string s)] w16 := by
   intro mm1
   induction mm1 using Nat.strongRecOn with
   | _ mm1 ih1 =>
   intro a b c q k w16 h0 h1 hb hG S16 hm1
   have hrw := rows_at (op := op) (by omega)
   have hrz := rows_size (op := op) (by omega)
   refine J.c 5 [] [] [] 46 (k < (((rowsL.getD ((op).toNat) rwo0).gfields).size : Int)) (fun fk4 => ?_) fun fk4 => ?_
   ·skip
    refine J.r 7 [true] [(47, iv k)] [] ?_
    obtain ⟨p1, hp1, hc1⟩ := rows8_at (S16.nth 0 rfl) (k).toNat (by first | omega | (simp; omega))
    have := byteAt_bounds ((rowsL.getD ((op).toNat) rwo0).gfields) (k).toNat
    refine J.ok (OK.index 48 52 1 (some ⟨b7, 0, none⟩) p1 (((rowsL.getD ((op).toNat) rwo0).gfields).size) (k).toNat k (p1.add (k).toNat) (by kernel_rfl) (by kernel_rfl) hp1 (by omega) (by first | omega | (simp; omega)) (by rw [Nat.mul_one])) ?_
    refine J.ok (OK.ldCell 49 5 (p1.add (k).toNat) (.int .u8 (byteAt ((rowsL.getD ((op).toNat) rwo0).gfields) (k).toNat)) (by kernel_rfl) (by kernel_rfl) hc1) ?_
    refine J.lb 5 [] [(8, .int .u8 (byteAt ((rowsL.getD ((op).toNat) rwo0).gfields) (k).toNat)), (7, iv k)] [] S16 5 rfl 50 (.slice (some ⟨b2, 0, none⟩) ((piecesB 32 s).length) ((piecesB 32 s).length)) ?_
    refine J.wi 2 [] [] [] 52 (k + 1) ?_
    refine J.ok (OK.index 53 104 1 (some ⟨b2, 0, none⟩) ⟨b2, 0, none⟩ ((piecesB 32 s).length) (k + 1).toNat (k + 1) ⟨b2, (k + 1).toNat, none⟩ (by kernel_rfl) (by kernel_rfl) rfl (by omega) (by first | omega | (simp; omega)) (by rw [Nat.mul_one, add_block, Nat.zero_add])) ?_
    refine J.ok (OK.ldArr Value.string S16 6 54 9 ((k + 1).toNat) ByteArray.empty (by kernel_rfl) (by kernel_rfl) rfl (by first | omega | (simp; omega))) ?_
    refine J.cn 8 [] [(9, .string ((piecesB 32 s).getD ((k + 1).toNat) ByteArray.empty))] [] 56 ((byteAt ((rowsL.getD ((op).toNat) rwo0).gfields) (k).toNat) = 75) (fun fk5 => ?_) fun fk5 => ?_
    ·skip
     refine J.r 5 [false] [(60, .string ((piecesB 32 s).getD ((k + 1).toNat) ByteArray.empty))] [] ?_
     rcases Bool.eq_false_or_eq_true ((atM (ls ((piecesB 32 s).getD ((k + 1).toNat) ByteArray.empty))).isSome) with fk6 | fk6
     rotate_left
     ·skip
      have hps_ := piece_size 32 s (k + 1).toNat
      refine J.cf 0 [] [] [] 61 hb55 (atoi_none ((piecesB 32 s).getD ((k + 1).toNat) ByteArray.empty) _ (by omega) fk6 (tabW_sep hW S16)) ?_
      rintro _ w22 ⟨ex1, en1, rfl, T6⟩
      have S22 : Sep w [rows8 b7 ((rowsL.getD ((op).toNat) rwo0).gfields), box b6 (rowsL.flatMap rwoE) 109, box b5 [iv op, iv a, iv b, iv c, iv q] 48, box bd5 (rowsL.flatMap rwoE) 109, box b4 (rowsL.flatMap rwoE) 109, box b3 [.slice (some ⟨b2, 0, none⟩) ((piecesB 32 s).length) ((piecesB 32 s).length)] 104, box b2 ((piecesB 32 s).map Value.string) 9, box b1 kvW31_1 48] w22 := S16.trans T6
      refine J.sb 16 [true] [] [] S22 7 rfl kvW31_1 rfl fun w23 S23 => ?_
      refine J.r 2 [] [(3, iv 3)] [] ?_
      refine J.ret Tryz.f19 [.agg #[iv 0, iv 0, iv 0, iv 0, iv 0], iv 3] Tryz.func19 ⟨⟨⟨b1, 0, none⟩, by kernel_rfl, ldV_run (S23.nth 7 rfl) (by kernel_rfl)⟩, by kernel_rfl, trivial⟩ ?_
      refine hR _ _ ?_
      obtain ⟨e1, e2⟩ := mat_none (s := s) (by omega) (atW_none hG h0 (by rw [← hrw.2.1]; omega) rfl (by rw [← hrw.2.1]; omega) (by rw [← hrw.2.1]; exact (mat_k (by omega)).trans (at_none fk6)))
      exact ⟨by rw [e1, e2]; rfl, S23.nil⟩
     have hps_ := piece_size 32 s (k + 1).toNat
     have := atM_bd (ls ((piecesB 32 s).getD ((k + 1).toNat) ByteArray.empty))
     refine J.c0 0 [] [] [] S16 61 hb55 (atoi_some ((piecesB 32 s).getD ((k + 1).toNat) ByteArray.empty) _ (by omega) fk6) fun w17 S17 => ?_
     refine J.c 24 [false] [(67, .int .u8 (byteAt ((rowsL.getD ((op).toNat) rwo0).gfields) (k).toNat)), (10, iv ((atM (ls ((piecesB 32 s).getD ((k + 1).toNat) ByteArray.empty))).getD 0))] [] 70 ((byteAt ((rowsL.getD ((op).toNat) rwo0).gfields) (k).toNat) = 65) (fun fk7 => ?_) fun fk7 => ?_
     ·skip
      refine J.sb 4 [true] [] [] S17 2 rfl [iv op, iv ((atM (ls ((piecesB 32 s).getD ((k + 1).toNat) ByteArray.empty))).getD 0), iv b, iv c, iv q] rfl fun w18 S18 => ?_
      refine J.wi 5 [] [] [] 82 (k + 1) ?_
      exact J.t 3 (ih1 _ (show ((((rowsL.getD ((op).toNat) rwo0).gfields).size : Int) - (k + 1)).toNat < mm1 from by omega) ((atM (ls ((piecesB 32 s).getD ((k + 1).toNat) ByteArray.empty))).getD 0) b c q (k + 1) w18 (by omega) (by omega) (by omega) (by have h_ := atW_next hG h0 (by rw [← hrw.2.1]; omega) (w := ((piecesB 32 s).getD (k + 1).toNat ByteArray.empty)) rfl (by rw [← hrw.2.1]; omega) (by rw [← hrw.2.1]; exact (mat_k (by omega)).trans (at_some fk6)); rw [← hrw.2.1, set_val.1 (by omega)] at h_; exact h_) S18 rfl)
     refine J.c 6 [false] [] [] 74 ((byteAt ((rowsL.getD ((op).toNat) rwo0).gfields) (k).toNat) = 66) (fun fk8 => ?_) fun fk8 => ?_
     ·skip
      refine J.sb 4 [true] [] [] S17 2 rfl [iv op, iv a, iv ((atM (ls ((piecesB 32 s).getD ((k + 1).toNat) ByteArray.empty))).getD 0), iv c, iv q] rfl fun w19 S19 => ?_
      refine J.wi 5 [] [] [] 82 (k + 1) ?_
      exact J.t 3 (ih1 _ (show ((((rowsL.getD ((op).toNat) rwo0).gfields).size : Int) - (k + 1)).toNat < mm1 from by omega) a ((atM (ls ((piecesB 32 s).getD ((k + 1).toNat) ByteArray.empty))).getD 0) c q (k + 1) w19 (by omega) (by omega) (by omega) (by have h_ := atW_next hG h0 (by rw [← hrw.2.1]; omega) (w := ((piecesB 32 s).getD (k + 1).toNat ByteArray.empty)) rfl (by rw [← hrw.2.1]; omega) (by rw [← hrw.2.1]; exact (mat_k (by omega)).trans (at_some fk6)); rw [← hrw.2.1, set_val.2.1 (by omega)] at h_; exact h_) S19 rfl)
     refine J.c 6 [false] [] [] 78 ((byteAt ((rowsL.getD ((op).toNat) rwo0).gfields) (k).toNat) = 67) (fun fk9 => ?_) fun fk9 => ?_
     ·skip
      refine J.sb 4 [true] [] [] S17 2 rfl [iv op, iv a, iv b, iv ((atM (ls ((piecesB 32 s).getD ((k + 1).toNat) ByteArray.empty))).getD 0), iv q] rfl fun w20 S20 => ?_
      refine J.wi 5 [] [] [] 82 (k + 1) ?_
      exact J.t 3 (ih1 _ (show ((((rowsL.getD ((op).toNat) rwo0).gfields).size : Int) - (k + 1)).toNat < mm1 from by omega) a b ((atM (ls ((piecesB 32 s).getD ((k + 1).toNat) ByteArray.empty))).getD 0) q (k + 1) w20 (by omega) (by omega) (by omega) (by have h_ := atW_next hG h0 (by rw [← hrw.2.1]; omega) (w := ((piecesB 32 s).getD (k + 1).toNat ByteArray.empty)) rfl (by rw [← hrw.2.1]; omega) (by rw [← hrw.2.1]; exact (mat_k (by omega)).trans (at_some fk6)); rw [← hrw.2.1, set_val.2.2.1 (by omega)] at h_; exact h_) S20 rfl)
     refine J.sb 4 [false] [] [] S17 2 rfl [iv op, iv a, iv b, iv c, iv ((atM (ls ((piecesB 32 s).getD ((k + 1).toNat) ByteArray.empty))).getD 0)] rfl fun w21 S21 => ?_
     refine J.wi 5 [] [] [] 82 (k + 1) ?_
     exact J.t 3 (ih1 _ (show ((((rowsL.getD ((op).toNat) rwo0).gfields).size : Int) - (k + 1)).toNat < mm1 from by omega) a b c ((atM (ls ((piecesB 32 s).getD ((k + 1).toNat) ByteArray.empty))).getD 0) (k + 1) w21 (by omega) (by omega) (by omega) (by have h_ := atW_next hG h0 (by rw [← hrw.2.1]; omega) (w := ((piecesB 32 s).getD (k + 1).toNat ByteArray.empty)) rfl (by rw [← hrw.2.1]; omega) (by rw [← hrw.2.1]; exact (mat_k (by omega)).trans (at_some fk6)); rw [← hrw.2.1, set_val.2.2.2 (by omega) (by omega) (by omega)] at h_; exact h_) S21 rfl)
    refine J.c0 3 [true] [] [] S16 58 hb54 (trimprefix_any ((piecesB 32 s).getD ((k + 1).toNat) ByteArray.empty) (⟨#[114]⟩ : ByteArray) _) fun w24 S24 => ?_
    refine J.r 5 [] [(60, .string (⟨(Lib.trimPrefix (ls ((piecesB 32 s).getD ((k + 1).toNat) ByteArray.empty)) (ls (⟨#[114]⟩ : ByteArray))).toArray⟩ : ByteArray))] [9] ?_
    rcases Bool.eq_false_or_eq_true ((atM (ls (⟨(Lib.trimPrefix (ls ((piecesB 32 s).getD ((k + 1).toNat) ByteArray.empty)) (ls (⟨#[114]⟩ : ByteArray))).toArray⟩ : ByteArray))).isSome) with fk10 | fk10
    rotate_left
    ·skip
     have hps_ := piece_size 32 s (k + 1).toNat
     have hts_ := trim_size ((piecesB 32 s).getD (k + 1).toNat ByteArray.empty) (⟨#[114]⟩ : ByteArray)
     refine J.cf 0 [] [] [] 61 hb55 (atoi_none (⟨(Lib.trimPrefix (ls ((piecesB 32 s).getD ((k + 1).toNat) ByteArray.empty)) (ls (⟨#[114]⟩ : ByteArray))).toArray⟩ : ByteArray) _ (by omega) fk10 (tabW_sep hW S24)) ?_
     rintro _ w30 ⟨ex2, en2, rfl, T7⟩
     have S30 : Sep w [rows8 b7 ((rowsL.getD ((op).toNat) rwo0).gfields), box b6 (rowsL.flatMap rwoE) 109, box b5 [iv op, iv a, iv b, iv c, iv q] 48, box bd5 (rowsL.flatMap rwoE) 109, box b4 (rowsL.flatMap rwoE) 109, box b3 [.slice (some ⟨b2, 0, none⟩) ((piecesB 32 s).length) ((piecesB 32 s).length)] 104, box b2 ((piecesB 32 s).map Value.string) 9, box b1 kvW31_1 48] w30 := S24.trans T7
     refine J.sb 16 [true] [] [] S30 7 rfl kvW31_1 rfl fun w31 S31 => ?_
     refine J.r 2 [] [(3, iv 3)] [] ?_
     refine J.ret Tryz.f19 [.agg #[iv 0, iv 0, iv 0, iv 0, iv 0], iv 3] Tryz.func19 ⟨⟨⟨b1, 0, none⟩, by kernel_rfl, ldV_run (S31.nth 7 rfl) (by kernel_rfl)⟩, by kernel_rfl, trivial⟩ ?_
     refine hR _ _ ?_
     obtain ⟨e1, e2⟩ := mat_none (s := s) (by omega) (atW_none hG h0 (by rw [← hrw.2.1]; omega) rfl (by rw [← hrw.2.1]; omega) (by rw [← hrw.2.1]; exact (mat_r (by omega) rfl).trans (at_none fk10)))
     exact ⟨by rw [e1, e2]; rfl, S31.nil⟩
    have hps_ := piece_size 32 s (k + 1).toNat
    have hts_ := trim_size ((piecesB 32 s).getD (k + 1).toNat ByteArray.empty) (⟨#[114]⟩ : ByteArray)
    have := atM_bd (ls (⟨(Lib.trimPrefix (ls ((piecesB 32 s).getD ((k + 1).toNat) ByteArray.empty)) (ls (⟨#[114]⟩ : ByteArray))).toArray⟩ : ByteArray))
    refine J.c0 0 [] [] [] S24 61 hb55 (atoi_some (⟨(Lib.trimPrefix (ls ((piecesB 32 s).getD ((k + 1).toNat) ByteArray.empty)) (ls (⟨#[114]⟩ : ByteArray))).toArray⟩ : ByteArray) _ (by omega) fk10) fun w25 S25 => ?_
    refine J.c 24 [false] [(67, .int .u8 (byteAt ((rowsL.getD ((op).toNat) rwo0).gfields) (k).toNat)), (10, iv ((atM (ls (⟨(Lib.trimPrefix (ls ((piecesB 32 s).getD ((k + 1).toNat) ByteArray.empty)) (ls (⟨#[114]⟩ : ByteArray))).toArray⟩ : ByteArray))).getD 0))] [] 70 ((byteAt ((rowsL.getD ((op).toNat) rwo0).gfields) (k).toNat) = 65) (fun fk11 => ?_) fun fk11 => ?_
    ·skip
     refine J.sb 4 [true] [] [] S25 2 rfl [iv op, iv ((atM (ls (⟨(Lib.trimPrefix (ls ((piecesB 32 s).getD ((k + 1).toNat) ByteArray.empty)) (ls (⟨#[114]⟩ : ByteArray))).toArray⟩ : ByteArray))).getD 0), iv b, iv c, iv q] rfl fun w26 S26 => ?_
     refine J.wi 5 [] [] [] 82 (k + 1) ?_
     exact J.t 3 (ih1 _ (show ((((rowsL.getD ((op).toNat) rwo0).gfields).size : Int) - (k + 1)).toNat < mm1 from by omega) ((atM (ls (⟨(Lib.trimPrefix (ls ((piecesB 32 s).getD ((k + 1).toNat) ByteArray.empty)) (ls (⟨#[114]⟩ : ByteArray))).toArray⟩ : ByteArray))).getD 0) b c q (k + 1) w26 (by omega) (by omega) (by omega) (by have h_ := atW_next hG h0 (by rw [← hrw.2.1]; omega) (w := ((piecesB 32 s).getD (k + 1).toNat ByteArray.empty)) rfl (by rw [← hrw.2.1]; omega) (by rw [← hrw.2.1]; exact (mat_r (by omega) rfl).trans (at_some fk10)); rw [← hrw.2.1, set_val.1 (by omega)] at h_; exact h_) S26 rfl)
    refine J.c 6 [false] [] [] 74 ((byteAt ((rowsL.getD ((op).toNat) rwo0).gfields) (k).toNat) = 66) (fun fk12 => ?_) fun fk12 => ?_
    ·skip
     refine J.sb 4 [true] [] [] S25 2 rfl [iv op, iv a, iv ((atM (ls (⟨(Lib.trimPrefix (ls ((piecesB 32 s).getD ((k + 1).toNat) ByteArray.empty)) (ls (⟨#[114]⟩ : ByteArray))).toArray⟩ : ByteArray))).getD 0), iv c, iv q] rfl fun w27 S27 => ?_
     refine J.wi 5 [] [] [] 82 (k + 1) ?_
     exact J.t 3 (ih1 _ (show ((((rowsL.getD ((op).toNat) rwo0).gfields).size : Int) - (k + 1)).toNat < mm1 from by omega) a ((atM (ls (⟨(Lib.trimPrefix (ls ((piecesB 32 s).getD ((k + 1).toNat) ByteArray.empty)) (ls (⟨#[114]⟩ : ByteArray))).toArray⟩ : ByteArray))).getD 0) c q (k + 1) w27 (by omega) (by omega) (by omega) (by have h_ := atW_next hG h0 (by rw [← hrw.2.1]; omega) (w := ((piecesB 32 s).getD (k + 1).toNat ByteArray.empty)) rfl (by rw [← hrw.2.1]; omega) (by rw [← hrw.2.1]; exact (mat_r (by omega) rfl).trans (at_some fk10)); rw [← hrw.2.1, set_val.2.1 (by omega)] at h_; exact h_) S27 rfl)
    refine J.c 6 [false] [] [] 78 ((byteAt ((rowsL.getD ((op).toNat) rwo0).gfields) (k).toNat) = 67) (fun fk13 => ?_) fun fk13 => ?_
    ·skip
     refine J.sb 4 [true] [] [] S25 2 rfl [iv op, iv a, iv b, iv ((atM (ls (⟨(Lib.trimPrefix (ls ((piecesB 32 s).getD ((k + 1).toNat) ByteArray.empty)) (ls (⟨#[114]⟩ : ByteArray))).toArray⟩ : ByteArray))).getD 0), iv q] rfl fun w28 S28 => ?_
     refine J.wi 5 [] [] [] 82 (k + 1) ?_
     exact J.t 3 (ih1 _ (show ((((rowsL.getD ((op).toNat) rwo0).gfields).size : Int) - (k + 1)).toNat < mm1 from by omega) a b ((atM (ls (⟨(Lib.trimPrefix (ls ((piecesB 32 s).getD ((k + 1).toNat) ByteArray.empty)) (ls (⟨#[114]⟩ : ByteArray))).toArray⟩ : ByteArray))).getD 0) q (k + 1) w28 (by omega) (by omega) (by omega) (by have h_ := atW_next hG h0 (by rw [← hrw.2.1]; omega) (w := ((piecesB 32 s).getD (k + 1).toNat ByteArray.empty)) rfl (by rw [← hrw.2.1]; omega) (by rw [← hrw.2.1]; exact (mat_r (by omega) rfl).trans (at_some fk10)); rw [← hrw.2.1, set_val.2.2.1 (by omega)] at h_; exact h_) S28 rfl)
    refine J.sb 4 [false] [] [] S25 2 rfl [iv op, iv a, iv b, iv c, iv ((atM (ls (⟨(Lib.trimPrefix (ls ((piecesB 32 s).getD ((k + 1).toNat) ByteArray.empty)) (ls (⟨#[114]⟩ : ByteArray))).toArray⟩ : ByteArray))).getD 0)] rfl fun w29 S29 => ?_
    refine J.wi 5 [] [] [] 82 (k + 1) ?_
    exact J.t 3 (ih1 _ (show ((((rowsL.getD ((op).toNat) rwo0).gfields).size : Int) - (k + 1)).toNat < mm1 from by omega) a b c ((atM (ls (⟨(Lib.trimPrefix (ls ((piecesB 32 s).getD ((k + 1).toNat) ByteArray.empty)) (ls (⟨#[114]⟩ : ByteArray))).toArray⟩ : ByteArray))).getD 0) (k + 1) w29 (by omega) (by omega) (by omega) (by have h_ := atW_next hG h0 (by rw [← hrw.2.1]; omega) (w := ((piecesB 32 s).getD (k + 1).toNat ByteArray.empty)) rfl (by rw [← hrw.2.1]; omega) (by rw [← hrw.2.1]; exact (mat_r (by omega) rfl).trans (at_some fk10)); rw [← hrw.2.1, set_val.2.2.2 (by omega) (by omega) (by omega)] at h_; exact h_) S29 rfl)
   refine J.lb 5 [false] [] [] S16 2 rfl 83 (.agg #[iv op, iv a, iv b, iv c, iv q]) ?_
   refine J.c0 0 [] [] [] S16 84 hb21 (mtext_any (⟨op, a, b, c, q⟩ : Ins) _ (show insQ _ (⟨op, a, b, c, q⟩ : Ins) from ⟨(show (-9223372036854775808) ≤ (op : Int) ∧ (op : Int) ≤ 9223372036854775807 from by omega), (show (-9223372036854775808) ≤ (a : Int) ∧ (a : Int) ≤ 9223372036854775807 from by omega), (show (-9223372036854775808) ≤ (b : Int) ∧ (b : Int) ≤ 9223372036854775807 from by omega), (show (-9223372036854775808) ≤ (c : Int) ∧ (c : Int) ≤ 9223372036854775807 from by omega), (show (-9223372036854775808) ≤ (q : Int) ∧ (q : Int) ≤ 9223372036854775807 from by omega), trivial⟩) (tabW_sep hW S16)) fun w32 S32 => ?_
   refine J.b 3 [] [] [] 86 (!((textI (⟨op, a, b, c, q⟩ : Ins)).toList == s.toList)) (fun fk14 => ?_) fun fk14 => ?_
   ·skip
    refine J.sb 4 [true] [] [] S32 7 rfl kvW31_1 rfl fun w33 S33 => ?_
    refine J.r 2 [] [(3, iv 3)] [] ?_
    refine J.ret Tryz.f19 [.agg #[iv 0, iv 0, iv 0, iv 0, iv 0], iv 3] Tryz.func19 ⟨⟨⟨b1, 0, none⟩, by kernel_rfl, ldV_run (S33.nth 7 rfl) (by kernel_rfl)⟩, by kernel_rfl, trivial⟩ ?_
    refine hR _ _ ?_
    obtain ⟨e1, e2⟩ := mat_other (s := s) (by omega) (atW_end hG (by rw [← hrw.2.1]; omega)) (by simpa using fk14)
    exact ⟨by rw [e1, e2]; rfl, S33.nil⟩
   refine J.lb 4 [false] [] [] S32 2 rfl 88 (.agg #[iv op, iv a, iv b, iv c, iv q]) ?_
   refine J.sb 0 [] [] [] S32 7 rfl [iv op, iv a, iv b, iv c, iv q] rfl fun w34 S34 => ?_
   refine J.r 2 [] [(3, iv 0)] [] ?_
   refine J.ret Tryz.f19 [.agg #[iv op, iv a, iv b, iv c, iv q], iv 0] Tryz.func19 ⟨⟨⟨b1, 0, none⟩, by kernel_rfl, ldV_run (S34.nth 7 rfl) (by kernel_rfl)⟩, by kernel_rfl, trivial⟩ ?_
   refine hR _ _ ?_
   obtain ⟨e1, e2⟩ := mat_same (s := s) (by omega) (atW_end hG (by rw [← hrw.2.1]; omega)) (by simpa using fk14)
   exact ⟨by rw [e1, e2]; rfl, S34.nil⟩
  exact J.t 5 (L19_1 _ 0 0 0 0 0 w15 (by omega) (by have hrz := rows_size (op := op) (by omega); omega) (by omega) (atW_start rfl (hop2 (by omega)) (by omega) (by rw [← (rows_at (op := op) (by omega)).2.1]; omega)) S15 rfl)
 refine J.sb 4 [true] [] [] S11 4 rfl kvW31_1 rfl fun w35 S35 => ?_
 refine J.r 2 [] [(3, iv 3)] [] ?_
 refine J.ret Tryz.f19 [.agg #[iv 0, iv 0, iv 0, iv 0, iv 0], iv 3] Tryz.func19 ⟨⟨⟨b1, 0, none⟩, by kernel_rfl, ldV_run (S35.nth 4 rfl) (by kernel_rfl)⟩, by kernel_rfl, trivial⟩ ?_
 refine hR _ _ ?_
 obtain ⟨e1, e2⟩ := mat_none (s := s) (by omega) (readI_not rfl (by first | exact .inl (by omega) | exact .inr (by rw [hop2 (by omega), ← (rows_at (op := op) (by omega)).2.1]; omega)))
 exact ⟨by rw [e1, e2]; rfl, S35.nil⟩

end
end Go.Proofs.YtaoolgcddapegaaGreatDoor

namespace Go.Proofs.YtaoolgcddapegaaGreatDoor
open Go.Eng Go.RowKit
set_option linter.unusedSimpArgs false
set_option linter.unusedVariables false
set_option maxRecDepth 20000
set_option maxHeartbeats 20000000
theorem form_q {i : Ins} (h : formB i = true) (w : World) : insQ w i := by
  have hp := formB_iff.1 h
  exact ⟨by omega, by omega, by omega, by omega, by omega, trivial⟩
theorem parI_q (s : ByteArray) (w : World) : insQ w (parI s) := by
  have h0 : insQ w ins0 := ⟨by decide, by decide, by decide, by decide, by decide, trivial⟩
  unfold parI
  split
  · exact h0
  · split
    · rename_i j hj; exact form_q (filter_some hj).2 w
    · exact h0
theorem hb20 : HasBody Tryz.prog 20 := fun _ _ => by kernel_rfl

theorem bequal_any (la : Option Addr) (na ca : Nat) (xa : List Int) (lb : Option Addr) (nb cb : Nat) (xb : List Int) (w : World) (ha : Ones (Value.int .u8) w la na xa) (hb : Ones (Value.int .u8) w lb nb xb) (hpa : ∀ p, la = some p → p = ⟨p.block, p.off, none⟩) (hpb : ∀ p, lb = some p → p = ⟨p.block, p.off, none⟩) : Ret Tryz.prog 20 #[.slice la na ca, .slice lb nb cb] w (fun v w' => v = .bool ((bytesB xa).toList == (bytesB xb).toList) ∧ Sep w [] w') := by
 refine Ret.st (N := 10) Tryz.func20 fun R hR S0 => ?_
 refine J.r 7 [] [(5, .slice la na ca)] [] ?_
 refine J.ok (OK.bytes 6 52 9 la na ca xa (by kernel_rfl) (by kernel_rfl) (ha.sep S0) hpa) ?_
 refine J.r 1 [] [(7, .slice lb nb cb)] [] ?_
 refine J.ok (OK.bytes 8 52 9 lb nb cb xb (by kernel_rfl) (by kernel_rfl) (hb.sep S0) hpb) ?_
 refine J.e 3 [.bool ((bytesB xa).toList == (bytesB xb).toList)] Tryz.func20 (hR _ _ ?_)
 exact ⟨rfl, S0.nil⟩

theorem hb7 : HasBody Tryz.prog 7 := fun _ _ => by kernel_rfl

theorem awake_any  (w : World) (hW : TabW w) : Ret Tryz.prog 7 #[] w (fun v w' => v = .bool true ∧ Sep w [] w') := by
 refine Ret.st (N := 35) Tryz.func7 fun R hR S0 => ?_
 have hpi := parI_q (⟨#[109, 117, 108, 32, 114, 50, 32, 114, 48, 32, 114, 49, 32, 49, 55]⟩ : ByteArray) w
 have hxs : (⟨#[109, 117, 108, 32, 114, 50, 32, 114, 48, 32, 114, 49, 32, 49, 55]⟩ : ByteArray).size = 15 := rfl
 refine J.cf 7 [] [] [] 7 hb18 (encode_any (⟨1, 0, 0, 0, -5⟩ : Ins) _ (show insQ _ (⟨1, 0, 0, 0, -5⟩ : Ins) from ⟨(show (-9223372036854775808) ≤ (1 : Int) ∧ (1 : Int) ≤ 9223372036854775807 from by omega), (show (-9223372036854775808) ≤ (0 : Int) ∧ (0 : Int) ≤ 9223372036854775807 from by omega), (show (-9223372036854775808) ≤ (0 : Int) ∧ (0 : Int) ≤ 9223372036854775807 from by omega), (show (-9223372036854775808) ≤ (0 : Int) ∧ (0 : Int) ≤ 9223372036854775807 from by omega), (show (-9223372036854775808) ≤ (-5 : Int) ∧ (-5 : Int) ≤ 9223372036854775807 from by omega), trivial⟩)) ?_
 rintro _ w1 ⟨ra1, rc1, rfl, T1⟩
 have S1 : Sep w [rowOf (enc1 (Value.int .u8)) ra1 rc1 5 1 (encX (⟨1, 0, 0, 0, -5⟩ : Ins))] w1 := S0.trans T1
 have := encX_len (⟨1, 0, 0, 0, -5⟩ : Ins)
 refine J.c0 8 [] [(2, iv (encE (⟨1, 0, 0, 0, -5⟩ : Ins))), (1, .slice ra1 ((encX (⟨1, 0, 0, 0, -5⟩ : Ins)).length) rc1)] [] S1 11 hb19 (mparse_any (⟨#[109, 117, 108, 32, 114, 50, 32, 114, 48, 32, 114, 49, 32, 49, 55]⟩ : ByteArray) _ (by omega) (tabW_sep hW S1)) fun w2 S2 => ?_
 refine J.nw 3 [] [(13, iv (parIE (⟨#[109, 117, 108, 32, 114, 50, 32, 114, 48, 32, 114, 49, 32, 49, 55]⟩ : ByteArray))), (12, .agg (insA (parI (⟨#[109, 117, 108, 32, 114, 50, 32, 114, 48, 32, 114, 49, 32, 49, 55]⟩ : ByteArray))))] [] S2 3 [iv 0, iv 0, iv 0, iv 0, iv 0] 48 fun b1 w3 S3 => ?_
 refine J.sb 0 [] [] [] S3 0 rfl (insC (parI (⟨#[109, 117, 108, 32, 114, 50, 32, 114, 48, 32, 114, 49, 32, 49, 55]⟩ : ByteArray))) rfl fun w4 S4 => ?_
 have fk2 : (encE (⟨1, 0, 0, 0, -5⟩ : Ins)) = 0 := (by kernel_rfl)
 refine J.h 7 [] [(4, iv (parIE (⟨#[109, 117, 108, 32, 114, 50, 32, 114, 48, 32, 114, 49, 32, 49, 55]⟩ : ByteArray)))] [] 16 (.bool ((encE (⟨1, 0, 0, 0, -5⟩ : Ins)) == 0)) (.bool true) (congrArg Value.bool (beq_iff_eq.2 fk2)) ?_
 refine J.r 1 [] [(17, .slice ra1 ((encX (⟨1, 0, 0, 0, -5⟩ : Ins)).length) rc1)] [] ?_
 refine J.newSlice S4 18 12 [.int .u8 1, .int .u8 0, .int .u8 0, .int .u8 0, .int .u8 255, .int .u8 255, .int .u8 255, .int .u8 255, .int .u8 255, .int .u8 255, .int .u8 255, .int .u8 251] 5 (by kernel_rfl) ?_
 intro b2 w5 S5
 have := rowOf_len (S5.nth 2 rfl)
 have := rowOf_len (S5.nth 2 rfl)
 refine J.c0 0 [] [] [] S5 19 hb20 (bequal_any ra1 ((encX (⟨1, 0, 0, 0, -5⟩ : Ins)).length) rc1 (encX (⟨1, 0, 0, 0, -5⟩ : Ins)) (some ⟨b2, 0, none⟩) 12 12 ([1, 0, 0, 0, 255, 255, 255, 255, 255, 255, 255, 251]) _ ((row1_ones (S5.nth 2 rfl) ((encX (⟨1, 0, 0, 0, -5⟩ : Ins)).length) (by first | rfl | omega | simp))) ((show Ones (Value.int .u8) w5 (some ⟨b2, 0, none⟩) 12 [1, 0, 0, 0, 255, 255, 255, 255, 255, 255, 255, 251] from ⟨rfl, box_cells (S5.nth 0 rfl)⟩)) (fun p hp => by rw [rowOf_plain (S5.nth 2 rfl) p hp]) (fun p hp => by cases hp; rfl)) fun w6 S6 => ?_
 have fk4 : ((bytesB (encX (⟨1, 0, 0, 0, -5⟩ : Ins))).toList == (bytesB ([1, 0, 0, 0, 255, 255, 255, 255, 255, 255, 255, 251])).toList) = true := (by kernel_rfl)
 refine J.h 2 [] [] [] 21 (.bool ((bytesB (encX (⟨1, 0, 0, 0, -5⟩ : Ins))).toList == (bytesB ([1, 0, 0, 0, 255, 255, 255, 255, 255, 255, 255, 251])).toList)) (.bool true) (congrArg Value.bool fk4) ?_
 have fk6 : (parIE (⟨#[109, 117, 108, 32, 114, 50, 32, 114, 48, 32, 114, 49, 32, 49, 55]⟩ : ByteArray)) = 0 := (by kernel_rfl)
 refine J.h 4 [] [] [] 25 (.bool ((parIE (⟨#[109, 117, 108, 32, 114, 50, 32, 114, 48, 32, 114, 49, 32, 49, 55]⟩ : ByteArray)) == 0)) (.bool true) (congrArg Value.bool (beq_iff_eq.2 fk6)) ?_
 refine J.lb 0 [] [] [] S6 1 rfl 26 (.agg (insA (parI (⟨#[109, 117, 108, 32, 114, 50, 32, 114, 48, 32, 114, 49, 32, 49, 55]⟩ : ByteArray)))) ?_
 refine J.r 1 [] [(27, .agg #[iv 7, iv 2, iv 0, iv 1, iv 17])] [] ?_
 refine J.ok (OK.eqS 28 true 48 (insA (parI (⟨#[109, 117, 108, 32, 114, 50, 32, 114, 48, 32, 114, 49, 32, 49, 55]⟩ : ByteArray))) #[iv 7, iv 2, iv 0, iv 1, iv 17] ((((parI (⟨#[109, 117, 108, 32, 114, 50, 32, 114, 48, 32, 114, 49, 32, 49, 55]⟩ : ByteArray)).gOp) == 7) && ((((parI (⟨#[109, 117, 108, 32, 114, 50, 32, 114, 48, 32, 114, 49, 32, 49, 55]⟩ : ByteArray)).gA) == 2) && ((((parI (⟨#[109, 117, 108, 32, 114, 50, 32, 114, 48, 32, 114, 49, 32, 49, 55]⟩ : ByteArray)).gB) == 0) && ((((parI (⟨#[109, 117, 108, 32, 114, 50, 32, 114, 48, 32, 114, 49, 32, 49, 55]⟩ : ByteArray)).gC) == 1) && ((((parI (⟨#[109, 117, 108, 32, 114, 50, 32, 114, 48, 32, 114, 49, 32, 49, 55]⟩ : ByteArray)).gK) == 17) && true))))) (by kernel_rfl) (by kernel_rfl) (by kernel_rfl) ((((parI (⟨#[109, 117, 108, 32, 114, 50, 32, 114, 48, 32, 114, 49, 32, 49, 55]⟩ : ByteArray)).gOp) == 7) && ((((parI (⟨#[109, 117, 108, 32, 114, 50, 32, 114, 48, 32, 114, 49, 32, 49, 55]⟩ : ByteArray)).gA) == 2) && ((((parI (⟨#[109, 117, 108, 32, 114, 50, 32, 114, 48, 32, 114, 49, 32, 49, 55]⟩ : ByteArray)).gB) == 0) && ((((parI (⟨#[109, 117, 108, 32, 114, 50, 32, 114, 48, 32, 114, 49, 32, 49, 55]⟩ : ByteArray)).gC) == 1) && (((parI (⟨#[109, 117, 108, 32, 114, 50, 32, 114, 48, 32, 114, 49, 32, 49, 55]⟩ : ByteArray)).gK) == 17))))) (by simp)) ?_
 have fk8 : ((((parI (⟨#[109, 117, 108, 32, 114, 50, 32, 114, 48, 32, 114, 49, 32, 49, 55]⟩ : ByteArray)).gOp) == 7) && ((((parI (⟨#[109, 117, 108, 32, 114, 50, 32, 114, 48, 32, 114, 49, 32, 49, 55]⟩ : ByteArray)).gA) == 2) && ((((parI (⟨#[109, 117, 108, 32, 114, 50, 32, 114, 48, 32, 114, 49, 32, 49, 55]⟩ : ByteArray)).gB) == 0) && ((((parI (⟨#[109, 117, 108, 32, 114, 50, 32, 114, 48, 32, 114, 49, 32, 49, 55]⟩ : ByteArray)).gC) == 1) && (((parI (⟨#[109, 117, 108, 32, 114, 50, 32, 114, 48, 32, 114, 49, 32, 49, 55]⟩ : ByteArray)).gK) == 17))))) = true := (by kernel_rfl)
 refine J.h 2 [] [] [] 30 (.bool ((((parI (⟨#[109, 117, 108, 32, 114, 50, 32, 114, 48, 32, 114, 49, 32, 49, 55]⟩ : ByteArray)).gOp) == 7) && ((((parI (⟨#[109, 117, 108, 32, 114, 50, 32, 114, 48, 32, 114, 49, 32, 49, 55]⟩ : ByteArray)).gA) == 2) && ((((parI (⟨#[109, 117, 108, 32, 114, 50, 32, 114, 48, 32, 114, 49, 32, 49, 55]⟩ : ByteArray)).gB) == 0) && ((((parI (⟨#[109, 117, 108, 32, 114, 50, 32, 114, 48, 32, 114, 49, 32, 49, 55]⟩ : ByteArray)).gC) == 1) && (((parI (⟨#[109, 117, 108, 32, 114, 50, 32, 114, 48, 32, 114, 49, 32, 49, 55]⟩ : ByteArray)).gK) == 17)))))) (.bool true) (congrArg Value.bool fk8) ?_
 refine J.lb 0 [] [] [] S6 1 rfl 31 (.agg (insA (parI (⟨#[109, 117, 108, 32, 114, 50, 32, 114, 48, 32, 114, 49, 32, 49, 55]⟩ : ByteArray)))) ?_
 refine J.c0 0 [] [] [] S6 32 hb21 (mtext_any (parI (⟨#[109, 117, 108, 32, 114, 50, 32, 114, 48, 32, 114, 49, 32, 49, 55]⟩ : ByteArray)) _ (insQ_sep hpi S6) (tabW_sep hW S6)) fun w7 S7 => ?_
 refine J.e 4 [.bool ((textI (parI (⟨#[109, 117, 108, 32, 114, 50, 32, 114, 48, 32, 114, 49, 32, 49, 55]⟩ : ByteArray))).toList == (⟨#[109, 117, 108, 32, 114, 50, 32, 114, 48, 32, 114, 49, 32, 49, 55]⟩ : ByteArray).toList)] Tryz.func7 (hR _ _ ?_)
 exact ⟨congrArg Value.bool (by kernel_rfl), S7.nil⟩

end Go.Proofs.YtaoolgcddapegaaGreatDoor

namespace Go.Proofs.YtaoolgcddapegaaGreatDoor
noncomputable section
open Go.Eng Go.RowKit
set_option linter.unusedSimpArgs false
set_option linter.unusedVariables false
set_option maxRecDepth 20000
set_option maxHeartbeats 20000000
/-! one instruction changes little, and reads little -/
theorem getD_set_ne {l : List Int} {i j : Nat} {x : Int} (h : j ≠ i) : (l.set i x).getD j 0 = l.getD j 0 := by
  rw [List.getD_eq_getElem?_getD, List.getD_eq_getElem?_getD, List.getElem?_set_ne (fun e => h e.symm)]
theorem getD_set_eq {l : List Int} {i : Nat} {x : Int} (h : i < l.length) : (l.set i x).getD i 0 = x := by
  rw [List.getD_eq_getElem?_getD, List.getElem?_set_self h]; rfl
theorem exR_keep {p : Prg} {i : Ins} {rs cs : List Int} {j : Nat} (hA : 0 ≤ i.gA) (h : (j : Int) ≠ i.gA ∨ i.gOp = 3) : (exR p i rs cs).getD j 0 = rs.getD j 0 := by
  unfold exR; split
  · rfl
  · rename_i h3; exact getD_set_ne (by omega)
theorem exC_keep {i : Ins} {rs cs : List Int} {j : Nat} (hK : i.gOp = 3 ∨ i.gOp = 22 → 0 ≤ i.gK) (h : ¬ (i.gOp = 3 ∧ (j : Int) = i.gK ∨ i.gOp = 22 ∧ ((j : Int) = i.gK / 32 ∨ (j : Int) = i.gK / 32 + 1))) : (exC i rs cs).getD j 0 = cs.getD j 0 := by
  unfold exC; split
  · exact getD_set_ne (by omega)
  · split
    · unfold lgC; rw [getD_set_ne (by omega), getD_set_ne (by omega)]
    · rfl
theorem ex_local {p : Prg} {i : Ins} {rs cs : List Int} {r x : Int} (h0 : 0 ≤ r) (hA : 0 ≤ i.gA ∧ i.gA < 16) (hB : 0 ≤ i.gB) (hC : 0 ≤ i.gC) (hK : i.gOp = 19 → 0 ≤ i.gK) (hl : rs.length = 16) (nA : r ≠ i.gA) (nB : r ≠ i.gB) (nC : r ≠ i.gC) (nK : i.gOp = 19 → r ≠ i.gK) :
    exE p i (rs.set r.toNat x) = exE p i rs ∧ (exR p i (rs.set r.toNat x) cs).getD i.gA.toNat 0 = (exR p i rs cs).getD i.gA.toNat 0 ∧ exC i (rs.set r.toNat x) cs = exC i rs cs := by
  have eA : (rs.set r.toNat x).getD i.gA.toNat 0 = rs.getD i.gA.toNat 0 := getD_set_ne (by omega)
  have eB : (rs.set r.toNat x).getD i.gB.toNat 0 = rs.getD i.gB.toNat 0 := getD_set_ne (by omega)
  have eC : (rs.set r.toNat x).getD i.gC.toNat 0 = rs.getD i.gC.toNat 0 := getD_set_ne (by omega)
  have eE : exE p i (rs.set r.toNat x) = exE p i rs := by unfold exE; rw [eC]
  have eV : exV p i (rs.set r.toNat x) cs = exV p i rs cs := by
    unfold exV
    by_cases h19 : i.gOp = 19
    · have eK : (rs.set r.toNat x).getD i.gK.toNat 0 = rs.getD i.gK.toNat 0 := getD_set_ne (by have := hK h19; have := nK h19; omega)
      rw [eB, eC, eK]
    · rw [eB, eC, if_neg h19, if_neg h19]
  refine ⟨eE, ?_, ?_⟩
  · unfold exR; rw [eE, eV]
    split
    · exact eA
    · rw [getD_set_eq (by rw [List.length_set]; omega), getD_set_eq (by omega)]
  · unfold exC; rw [eA, eB]
theorem st_local {p : Prg} {n m : Nat} {rs cs : List Int} {k r x : Int} (h : stE p n rs k = 0) (hm : m = n) (hl : rs.length = 16) (h0 : 0 ≤ r) (nA : r ≠ (p.gCode_l.getD k.toNat ins0).gA) (nB : r ≠ (p.gCode_l.getD k.toNat ins0).gB) (nC : r ≠ (p.gCode_l.getD k.toNat ins0).gC) (nK : (p.gCode_l.getD k.toNat ins0).gOp = 19 → r ≠ (p.gCode_l.getD k.toNat ins0).gK)
    (hf : formB (p.gCode_l.getD k.toNat ins0) = true) :
    stE p m (rs.set r.toNat x) k = 0 ∧ (stR p m (rs.set r.toNat x) cs k).getD (p.gCode_l.getD k.toNat ins0).gA.toNat 0 = (stR p n rs cs k).getD (p.gCode_l.getD k.toNat ins0).gA.toNat 0 ∧ stC p m (rs.set r.toNat x) cs k = stC p n rs cs k := by
  subst hm
  obtain ⟨hv, hn, hk0, hk1, he⟩ := st_zero h
  have hg := goodP_iff.2 ⟨hv, hn⟩
  have hb := formB_iff.1 hf
  obtain ⟨e1, e2, e3⟩ := ex_local (p := p) (cs := cs) (x := x) h0 (by omega) (by omega) (by omega) (by omega) hl nA nB nC nK
  have h2 : stE p m (rs.set r.toNat x) k = 0 := by rw [st_run hg hk0 hk1, e1]; exact he
  obtain ⟨a1, a2, _⟩ := st_ok (cs := cs) h
  obtain ⟨b1, b2, _⟩ := st_ok (cs := cs) h2
  exact ⟨h2, by rw [a1, b1]; exact e2, by rw [a2, b2]; exact e3⟩
theorem tmod_bd (x : Int) : -16 < Int.tmod x 16 ∧ Int.tmod x 16 < 16 := by
  constructor
  · have := Int.lt_tmod_of_pos x (show (0 : Int) < 16 by decide); omega
  · exact Int.tmod_lt_of_pos x (by decide)
theorem stR_len {p : Prg} {n : Nat} {rs cs : List Int} {k : Int} (h : rs.length = 16) : (stR p n rs cs k).length = 16 := by
  unfold stR; split
  · rw [exR_len]; exact h
  · rfl
theorem hb13 : HasBody Tryz.prog 13 := fun _ _ => by kernel_rfl
def K13_0 := adv 24 [false] (bodyOf Tryz.f13)
theorem eqints_any (la : Option Addr) (len cap : Nat) (l : List Int) (ma : Option Addr) (mn mc : Nat) (ml : List Int) (w : World) (hI : Ints w la len l) (hJ : Ints w ma mn ml) (hlen : len ≤ 9223372036854775807) : Ret Tryz.prog 13 #[.slice la len cap, .slice ma mn mc] w (fun v w' => v = .bool (l == ml) ∧ Sep w [] w') := by
 refine Ret.st (N := 26) Tryz.func13 fun R hR S0 => ?_
 have hl2 := hI.len_eq
 have hm2 := hJ.len_eq
 refine J.cn 13 [] [] [] 10 ((len : Int) = (mn : Int)) (fun fk1 => ?_) fun fk1 => ?_
 ·skip
  have L13_1 : ∀ (mm_ : Nat) (i : Int) (w1 : World), (0 ≤ i) → (i ≤ (len : Int)) → (∀ j, j < (i).toNat → l.getD j 0 = ml.getD j 0) → Sep w [] w1 → ((len : Int) - i).toNat = mm_ → J Tryz.prog 13 26 R K13_0 [(13, iv i), (12, iv (len : Int)), (0, .slice la len cap), (1, .slice ma mn mc)] w1 := by
   intro mm1
   induction mm1 using Nat.strongRecOn with
   | _ mm1 ih1 =>
   intro i w1 h0 h1 hq S1 hm1
   refine J.c 5 [] [] [] 14 (i < (len : Int)) (fun fk2 => ?_) fun fk2 => ?_
   ·skip
    refine J.r 10 [true] [(5, iv i)] [] ?_
    obtain ⟨p1, hp1, hc1⟩ := hI.at 0 (i).toNat (by omega)
    obtain ⟨p2, hp2, hc2⟩ := hJ.at 0 (i).toNat (by omega)
    refine J.drawStill S1 9 Tryz.mixed (by kernel_rfl) (by kernel_rfl) (by kernel_rfl) ?_
    intro w2 S2
    refine SL.r 16 (.slice la len cap) ?_
    refine SL.r 17 (iv i) ?_
    refine SL.ok (by decide) (OK.index 18 26 1 la p1 len (i).toNat i (p1.add (i).toNat) (by kernel_rfl) (by kernel_rfl) hp1 (by omega) (by omega) (by rw [Nat.mul_one])) ?_
    refine SL.ok (by decide) (OK.ldCell 19 3 (p1.add (i).toNat) (iv (l.getD (i).toNat 0)) (by kernel_rfl) (by kernel_rfl) (S2.cell hc1)) ?_
    refine SL.r 20 (.slice ma mn mc) ?_
    refine SL.r 21 (iv i) ?_
    refine SL.ok (by decide) (OK.index 22 26 1 ma p2 mn (i).toNat i (p2.add (i).toNat) (by kernel_rfl) (by kernel_rfl) hp2 (by omega) (by omega) (by rw [Nat.mul_one])) ?_
    refine SL.ok (by decide) (OK.ldCell 23 3 (p2.add (i).toNat) (iv (ml.getD (i).toNat 0)) (by kernel_rfl) (by kernel_rfl) (S2.cell hc2)) ?_
    refine SL.r 24 (.bool ((l.getD (i).toNat 0) != (ml.getD (i).toNat 0))) ?_
    refine SL.done ?_
    refine TL.done (by kernel_rfl) ?_
    refine J.cn 0 [] [] [] 24 ((l.getD (i).toNat 0) = (ml.getD (i).toNat 0)) (fun fk3 => ?_) fun fk3 => ?_
    ·skip
     refine J.wi 5 [false] [] [] 25 (i + 1) ?_
     exact J.t 3 (ih1 _ (show ((len : Int) - (i + 1)).toNat < mm1 from by omega) (i + 1) w2 (by omega) (by omega) (by intro j hj; by_cases e : j = i.toNat; (subst e; exact fk3); exact hq j (by omega)) S2 rfl)
    refine J.e 5 [.bool false] Tryz.func13 (hR _ _ ?_)
    exact ⟨congrArg Value.bool (beq_at (i := i.toNat) fk3).symm, S2.nil⟩
   refine J.e 6 [.bool true] Tryz.func13 (hR _ _ ?_)
   exact ⟨congrArg Value.bool (beq_all (by omega) fun j hj => hq j (by omega)).symm, S1.nil⟩
  exact J.t 11 (L13_1 _ 0 w (by omega) (by omega) (by intro j hj; simp at hj) S0 rfl)
 refine J.e 5 [.bool false] Tryz.func13 (hR _ _ ?_)
 exact ⟨congrArg Value.bool (beq_no hl2 hm2 (by omega)).symm, S0.nil⟩

end
end Go.Proofs.YtaoolgcddapegaaGreatDoor

