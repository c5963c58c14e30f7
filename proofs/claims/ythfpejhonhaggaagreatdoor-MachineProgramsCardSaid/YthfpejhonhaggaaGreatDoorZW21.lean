/- Walks of functions of this seat, printed by a program over the engine. Conditions: as each theorem says. -/
import Derived.Test.YthfpejhonhaggaaGreatDoorZW20
namespace Go.Proofs.YthfpejhonhaggaaGreatDoor
open Go.Eng Go.RowKit
set_option linter.unusedSimpArgs false
set_option linter.unusedVariables false
abbrev kvW21_1 : List Value := [iv 0, iv 0, iv 0, iv 0, iv 0]
abbrev kvW21_2 : Array Value := #[iv 0, iv 0, iv 0, iv 0, iv 0]
theorem hb14 : HasBody Tryz.prog 14 := fun _ _ => by kernel_rfl
noncomputable def K14_0 : List Item := adv 2 [] (bodyOf Tryz.f14)
noncomputable def K14_1 : List Item := adv 9 [] (popK K14_0)
noncomputable def K14_2 : List Item := adv 4 [true] K14_1
noncomputable def K14_3 : List Item := adv 2 [] (popK K14_2)
noncomputable def K14_4 : List Item := adv 5 [false] K14_1
noncomputable def K14_5 : List Item := adv 3 [] (popK (popK (popK K14_4)))
noncomputable def K14_6 : List Item := adv 1 [] (popK K14_5)
noncomputable def K14_7 : List Item := adv 4 [] (popK K14_6)
noncomputable def K14_8 : List Item := adv 4 [true] (rRest K14_7)
noncomputable def K14_9 : List Item := adv 2 [] (popK K14_8)
noncomputable def K14_10 : List Item := adv 6 [false] (rRest K14_7)
noncomputable def K14_11 : List Item := adv 4 [] (popK (popK K14_10))
noncomputable def K14_12 : List Item := adv 1 [] (popK K14_11)
noncomputable def K14_13 : List Item := adv 1 [] (popK K14_12)
noncomputable def K14_14 : List Item := adv 5 [] (popK (popK K14_13))
noncomputable def K14_15 : List Item := adv 5 [] K14_14
noncomputable def K14_16 : List Item := adv 7 [true] K14_15
noncomputable def K14_17 : List Item := adv 5 [] (popK (popK K14_16))
noncomputable def K14_18 : List Item := adv 2 [] (popK K14_17)
noncomputable def K14_19 : List Item := adv 8 [] (popK (popK K14_18))
noncomputable def K14_20 : List Item := adv 5 [false] K14_19
noncomputable def K14_21 : List Item := adv 24 [false] (popK K14_20)
noncomputable def K14_22 : List Item := adv 4 [true] K14_21
noncomputable def K14_23 : List Item := adv 5 [] (popK K14_22)
noncomputable def K14_24 : List Item := adv 6 [false] K14_21
noncomputable def K14_25 : List Item := adv 4 [true] K14_24
noncomputable def K14_26 : List Item := adv 5 [] (popK K14_25)
noncomputable def K14_27 : List Item := adv 6 [false] K14_24
noncomputable def K14_28 : List Item := adv 4 [true] K14_27
noncomputable def K14_29 : List Item := adv 5 [] (popK K14_28)
noncomputable def K14_30 : List Item := adv 4 [false] K14_27
noncomputable def K14_31 : List Item := adv 5 [] (popK K14_30)
noncomputable def K14_32 : List Item := adv 16 [true] (popK K14_20)
noncomputable def K14_33 : List Item := adv 2 [] (popK K14_32)
noncomputable def K14_34 : List Item := adv 3 [true] K14_19
noncomputable def K14_35 : List Item := adv 5 [] (popK K14_34)
noncomputable def K14_36 : List Item := adv 24 [false] (popK K14_35)
noncomputable def K14_37 : List Item := adv 4 [true] K14_36
noncomputable def K14_38 : List Item := adv 5 [] (popK K14_37)
noncomputable def K14_39 : List Item := adv 6 [false] K14_36
noncomputable def K14_40 : List Item := adv 4 [true] K14_39
noncomputable def K14_41 : List Item := adv 5 [] (popK K14_40)
noncomputable def K14_42 : List Item := adv 6 [false] K14_39
noncomputable def K14_43 : List Item := adv 4 [true] K14_42
noncomputable def K14_44 : List Item := adv 5 [] (popK K14_43)
noncomputable def K14_45 : List Item := adv 4 [false] K14_42
noncomputable def K14_46 : List Item := adv 5 [] (popK K14_45)
noncomputable def K14_47 : List Item := adv 16 [true] (popK K14_35)
noncomputable def K14_48 : List Item := adv 2 [] (popK K14_47)
noncomputable def K14_49 : List Item := adv 5 [false] K14_15
noncomputable def K14_50 : List Item := adv 3 [] (popK (popK K14_49))
noncomputable def K14_51 : List Item := adv 4 [true] K14_50
noncomputable def K14_52 : List Item := adv 2 [] (popK K14_51)
noncomputable def K14_53 : List Item := adv 4 [false] K14_50
noncomputable def K14_54 : List Item := adv 2 [] (popK (popK K14_53))
noncomputable def K14_55 : List Item := adv 4 [true] (rRest K14_7)
noncomputable def K14_56 : List Item := adv 2 [] (popK K14_55)
set_option maxRecDepth 20000 in
set_option maxHeartbeats 20000000 in
theorem mparse_any (s : ByteArray) (w : World) (hs : s.size ≤ 1000000) (hW : TabW w) : Ret Tryz.prog 14 #[.string s] w (fun v w' => v = .tuple #[.agg #[iv (parI s).gOp, iv (parI s).gA, iv (parI s).gB, iv (parI s).gC, iv (parI s).gK], iv (parIE s)] ∧ Sep w [] w') := by
 have S0 := Sep.refl w
 refine Ret.named fun R hR => ?_
 refine Ret.of_J (N := 89) [(0, .string s)] Tryz.func14 rfl rfl (Nat.le_of_ble_eq_true (by kernel_rfl)) (by kernel_rfl) ?_
 have hrl_ := rows_len
 have hpl_ := pieces_len 32 s
 have hpp_ := List.length_pos_iff.2 (splitOn_ne 32 (ls s))
 refine J.run 2 K14_0 [(0, .string s)] w (by kernel_rfl) ?_
 refine J.new S0 2 kvW21_1 44 (by kernel_rfl) ?_
 intro b1 w1 S1
 refine J.run 9 K14_1 [(14, .bool (decide ((s.size : Int) > 100))), (2, pv b1), (0, .string s)] w1 (by kernel_rfl) ?_
 by_cases fk1 : (s.size : Int) > 100
 ·skip
  refine J.head (.bool true) (congrArg Value.bool (decide_eq_true fk1)) ?_
  refine J.run 4 K14_2 [(15, .agg kvW21_2), (2, pv b1)] w1 (by kernel_rfl) ?_
  refine J.stBox S1 0 44 0 (.agg kvW21_2) kvW21_1 [box b1 kvW21_1 44] (by kernel_rfl) rfl (by kernel_rfl) (by kernel_rfl) rfl ?_
  intro w2 S2
  refine J.run 2 K14_3 [(3, iv 5), (2, pv b1)] w2 (by kernel_rfl) ?_
  refine J.ret Tryz.f14 [.agg kvW21_2, iv 5] Tryz.func14 ⟨⟨⟨b1, 0, none⟩, by kernel_rfl, ldV_run (S2.nth 0 rfl) (by kernel_rfl)⟩, by kernel_rfl, trivial⟩ ?_
  refine hR _ _ ?_
  obtain ⟨e1, e2⟩ := par_long (s := s) (by omega)
  exact ⟨by rw [e1, e2]; rfl, S2.nil⟩
 ·skip
  refine J.head (.bool false) (congrArg Value.bool (decide_eq_false fk1)) ?_
  refine J.run 5 K14_4 [(16, .string s), (2, pv b1), (0, .string s)] w1 (by kernel_rfl) ?_
  refine J.callF 17 45 #[.string s, .string ⟨#[32]⟩] hb45 (by kernel_rfl) (split32_any s _ (by omega) (tabW_sep hW S1)) ?_
  rintro _ w3 ⟨b2, rfl, T1⟩
  have S3 : Sep w [box b2 ((piecesB 32 s).map Value.string) 9, box b1 kvW21_1 44] w3 := S1.trans T1
  clear T1
  have := splitOn_bound 32 (ls s); have := pieces_len 32 s; have := ls_length s
  refine J.new S3 4 [.slice none 0 0] 79 (by kernel_rfl) ?_
  intro b3 w4 S4
  refine J.stBox S4 0 79 0 (.slice (some ⟨b2, 0, none⟩) ((piecesB 32 s).length) ((piecesB 32 s).length)) [.slice (some ⟨b2, 0, none⟩) ((piecesB 32 s).length) ((piecesB 32 s).length)] [box b3 [.slice (some ⟨b2, 0, none⟩) ((piecesB 32 s).length) ((piecesB 32 s).length)] 79, box b2 ((piecesB 32 s).map Value.string) 9, box b1 kvW21_1 44] (by kernel_rfl) rfl (by kernel_rfl) (by kernel_rfl) rfl ?_
  intro w5 S5
  refine J.run 3 K14_5 [(4, pv b3), (2, pv b1), (0, .string s)] w5 (by kernel_rfl) ?_
  refine J.callF 18 42 #[] hb42 (by kernel_rfl) (rows_any _) ?_
  rintro _ w6 ⟨b4, rfl, T2⟩
  have S6 : Sep w [box b4 (rowsL.flatMap rwoE) 74, box b3 [.slice (some ⟨b2, 0, none⟩) ((piecesB 32 s).length) ((piecesB 32 s).length)] 79, box b2 ((piecesB 32 s).map Value.string) 9, box b1 kvW21_1 44] w6 := S5.trans T2
  clear T2 S5
  refine J.run 1 K14_6 [(19, .func (.func 47) #[] #[pv b3]), (18, .slice (some ⟨b4, 0, none⟩) 23 23), (4, pv b3), (2, pv b1), (0, .string s)] w6 (by kernel_rfl) ?_
  refine J.callF 20 46 #[.slice (some ⟨b4, 0, none⟩) 23 23, .func (.func 47) #[] #[pv b3]] hb46 (by kernel_rfl) (indexRW1 (some ⟨b4, 0, none⟩) 23 23 rowsL 47 (pv b3) (fun r : Rwo => r.gname.toList == ((piecesB 32 s).getD 0 ByteArray.empty).toList) _ ((show Recs rwoE 3 w6 (some ⟨b4, 0, none⟩) 23 (rowsL : List Rwo) from ⟨rfl, fun _ => rfl, by decide, box_cells (S6.nth 0 rfl)⟩)) (by first | omega | (simp; omega)) hb47 (fun i_ w_ hi_ S_ => parse1_any _ b3 (some ⟨b2, 0, none⟩) ((piecesB 32 s).length) ((piecesB 32 s).length) (piecesB 32 s) w_ ((box_ones (S6.nth 2 rfl) ((piecesB 32 s).length) rfl).sep S_) (by omega) (box_keep (S6.nth 1 rfl) S_))) ?_
  rintro _ w7 ⟨rfl, T3⟩
  have S7 : Sep w [box b4 (rowsL.flatMap rwoE) 74, box b3 [.slice (some ⟨b2, 0, none⟩) ((piecesB 32 s).length) ((piecesB 32 s).length)] 79, box b2 ((piecesB 32 s).map Value.string) 9, box b1 kvW21_1 44] w7 := S6.trans T3
  clear T3 S6
  obtain ⟨op, hop⟩ : ∃ x : Int, x = indexF (fun r : Rwo => r.gname.toList == ((piecesB 32 s).getD 0 ByteArray.empty).toList) rowsL := ⟨_, rfl⟩
  refine J.head (iv op) (congrArg (Value.int .i64) hop.symm) ?_
  obtain ⟨hix1, hix2, hix3, hix4⟩ := index_rows ((piecesB 32 s).getD 0 ByteArray.empty)
  rw [← hop] at hix1 hix2 hix3 hix4
  have hop2 := hix4
  refine J.run 4 K14_7 [(5, iv op), (4, pv b3), (2, pv b1), (0, .string s)] w7 (by kernel_rfl) ?_
  by_cases fk2 : op < 1
  ·skip
   refine J.drawPlan (fun w_ => Sep w [box b4 (rowsL.flatMap rwoE) 74, box b3 [.slice (some ⟨b2, 0, none⟩) ((piecesB 32 s).length) ((piecesB 32 s).length)] 79, box b2 ((piecesB 32 s).map Value.string) 9, box b1 kvW21_1 44] w_) [(0, true), (1, true), (2, true), (3, true), (4, true), (5, true), (6, true), (7, true), (8, true), (9, true), (10, true), (11, true), (12, true), (13, true)] S7 Tryz.mixed (by kernel_rfl) (planOK_of (T := [(0, some 21, 32), (1, some 22, 2097152), (2, some 23, 4194304), (4, some 24, 8388624), (12, some 25, 25165824), (4, some 26, 8388608), (4, some 27, 8388640), (100, some 28, 209715200), (132, some 29, 276824064), (260, some 30, 545259520), (516, some 31, 1082130432), (1028, some 32, 2155872256), (2068, some 33, 4336910336), (4100, some 34, 8598323200)]) (by kernel_rfl) (by kernel_rfl)) ?_
   intro w8 S8
   refine PB.mk S8 ?_
   refine PL.take 0 21 (iv op) (fun _ _ => by kernel_rfl) ?_
   refine PL.take 1 22 (.bool (decide (op < 1))) (fun _ _ => by kernel_rfl) ?_
   refine PL.head (.bool true) (congrArg Value.bool (decide_eq_true fk2)) ?_
   refine PL.take 2 23 (.bool true) (fun _ _ => by kernel_rfl) ?_
   refine PL.takePass 3 (some 24) (by kernel_rfl) ?_
   refine PL.takePass 4 (some 25) (by kernel_rfl) ?_
   refine PL.takePass 5 (some 26) (by kernel_rfl) ?_
   refine PL.takePass 6 (some 27) (by kernel_rfl) ?_
   refine PL.takePass 7 (some 28) (by kernel_rfl) ?_
   refine PL.takePass 8 (some 29) (by kernel_rfl) ?_
   refine PL.takePass 9 (some 30) (by kernel_rfl) ?_
   refine PL.takePass 10 (some 31) (by kernel_rfl) ?_
   refine PL.takePass 11 (some 32) (by kernel_rfl) ?_
   refine PL.takePass 12 (some 33) (by kernel_rfl) ?_
   refine PL.take 13 34 (.bool true) (fun _ _ => by kernel_rfl) ?_
   refine PL.done ?_
   refine J.run 0 (rRest K14_7) [(34, .bool true), (5, iv op), (4, pv b3), (2, pv b1), (0, .string s)] w8 (by kernel_rfl) ?_
   refine J.run 4 K14_8 [(35, .agg kvW21_2), (2, pv b1)] w8 (by kernel_rfl) ?_
   refine J.stBox S8 3 44 0 (.agg kvW21_2) kvW21_1 [box b4 (rowsL.flatMap rwoE) 74, box b3 [.slice (some ⟨b2, 0, none⟩) ((piecesB 32 s).length) ((piecesB 32 s).length)] 79, box b2 ((piecesB 32 s).map Value.string) 9, box b1 kvW21_1 44] (by kernel_rfl) rfl (by kernel_rfl) (by kernel_rfl) rfl ?_
   intro w9 S9
   refine J.run 2 K14_9 [(3, iv 3), (2, pv b1)] w9 (by kernel_rfl) ?_
   refine J.ret Tryz.f14 [.agg kvW21_2, iv 3] Tryz.func14 ⟨⟨⟨b1, 0, none⟩, by kernel_rfl, ldV_run (S9.nth 3 rfl) (by kernel_rfl)⟩, by kernel_rfl, trivial⟩ ?_
   refine hR _ _ ?_
   obtain ⟨e1, e2⟩ := mat_none (s := s) (by omega) (readI_not rfl (by first | exact .inl (by omega) | exact .inr (by rw [hop2 (by omega), ← (rows_at (op := op) (by omega)).2.1]; omega)))
   exact ⟨by rw [e1, e2]; rfl, S9.nil⟩
  ·skip
   have hrz0 := rows_size (op := op) (by omega)
   refine J.drawPlan (fun w_ => Sep w [box b4 (rowsL.flatMap rwoE) 74, box b3 [.slice (some ⟨b2, 0, none⟩) ((piecesB 32 s).length) ((piecesB 32 s).length)] 79, box b2 ((piecesB 32 s).map Value.string) 9, box b1 kvW21_1 44] w_) [(0, true), (1, true), (2, true), (3, true), (4, true), (6, true), (5, false), (7, true), (8, true), (9, false), (10, true), (11, true), (12, true), (13, true)] S7 Tryz.mixed (by kernel_rfl) (planOK_of (T := [(0, some 21, 32), (1, some 22, 2097152), (2, some 23, 4194304), (4, some 24, 8388624), (12, some 25, 25165824), (4, some 26, 8388608), (4, some 27, 8388640), (100, some 28, 209715200), (132, some 29, 276824064), (260, some 30, 545259520), (516, some 31, 1082130432), (1028, some 32, 2155872256), (2068, some 33, 4336910336), (4100, some 34, 8598323200)]) (by kernel_rfl) (by kernel_rfl)) ?_
   intro w10 S10
   refine PB.mk S10 ?_
   refine PL.take 0 21 (iv op) (fun _ _ => by kernel_rfl) ?_
   refine PL.take 1 22 (.bool (decide (op < 1))) (fun _ _ => by kernel_rfl) ?_
   refine PL.head (.bool false) (congrArg Value.bool (decide_eq_false fk2)) ?_
   refine PL.take 2 23 (.bool false) (fun _ _ => by kernel_rfl) ?_
   refine PL.takeOK 3 (fun w_ S_ => OK.ldBox S_ 1 24 79 0 (.slice (some ⟨b2, 0, none⟩) ((piecesB 32 s).length) ((piecesB 32 s).length)) (by kernel_rfl) rfl (by kernel_rfl)) rfl ?_
   refine PL.take 4 25 (iv ((piecesB 32 s).length : Int)) (fun _ _ => by kernel_rfl) ?_
   refine PL.take 6 27 (iv op) (fun _ _ => by kernel_rfl) ?_
   refine PL.callF 26 42 #[] hb42 (by kernel_rfl) (rows_any _) ?_
   rintro _ w11 ⟨bd5, rfl, T4⟩
   have S11 : Sep w [box bd5 (rowsL.flatMap rwoE) 74, box b4 (rowsL.flatMap rwoE) 74, box b3 [.slice (some ⟨b2, 0, none⟩) ((piecesB 32 s).length) ((piecesB 32 s).length)] 79, box b2 ((piecesB 32 s).map Value.string) 9, box b1 kvW21_1 44] w11 := S10.trans T4
   clear T4 S10
   refine PB.mk (S11.erase 0) ?_
   refine PL.takeOK 7 (fun w_ S_ => OK.index 28 75 3 (some ⟨bd5, 0, none⟩) ⟨bd5, 0, none⟩ 23 (op).toNat op ⟨bd5, ((op).toNat) * 3, none⟩ (by kernel_rfl) (by kernel_rfl) rfl (by omega) (by first | omega | (simp; omega)) (by rw [add_block, Nat.zero_add])) rfl ?_
   refine PL.take 8 29 (.pointer (some ⟨bd5, ((op).toNat) * 3 + 1, none⟩)) (fun _ _ => by kernel_rfl) ?_
   refine PL.ok (OK.ldCell 30 9 ⟨bd5, ((op).toNat) * 3 + 1, none⟩ (.string ((rowsL.getD ((op).toNat) rwo0).gfields)) (by kernel_rfl) (by kernel_rfl) (box_rec_one (s := 3) (S11.nth 0 rfl) (fun _ => rfl) (by decide) rwo0 ((op).toNat) (by first | omega | (simp; omega)) 1 _ rfl)) ?_
   refine PB.mk (S11.erase 0) ?_
   refine PL.take 10 31 (iv (((rowsL.getD ((op).toNat) rwo0).gfields).size : Int)) (fun _ _ => by kernel_rfl) ?_
   refine PL.take 11 32 (iv (IntKind.wrap .i64 (1 + (((rowsL.getD ((op).toNat) rwo0).gfields).size : Int)))) (fun _ _ => by kernel_rfl) ?_
   refine PL.head (iv (1 + (((rowsL.getD ((op).toNat) rwo0).gfields).size : Int))) (congrArg (Value.int .i64) (IntWalk.i64_in _ (by omega))) ?_
   refine PL.take 12 33 (.bool (((piecesB 32 s).length : Int) != (1 + (((rowsL.getD ((op).toNat) rwo0).gfields).size : Int)))) (fun _ _ => by kernel_rfl) ?_
   refine PL.take 13 34 (.bool (((piecesB 32 s).length : Int) != (1 + (((rowsL.getD ((op).toNat) rwo0).gfields).size : Int)))) (fun _ _ => by kernel_rfl) ?_
   refine PL.done ?_
   refine J.run 0 (rRest K14_7) [(34, .bool (((piecesB 32 s).length : Int) != (1 + (((rowsL.getD ((op).toNat) rwo0).gfields).size : Int)))), (5, iv op), (4, pv b3), (2, pv b1), (0, .string s)] w11 (by kernel_rfl) ?_
   by_cases fk3 : ((piecesB 32 s).length : Int) = (1 + (((rowsL.getD ((op).toNat) rwo0).gfields).size : Int))
   ·skip
    refine J.head (.bool false) (congrArg Value.bool (bne_eq_false_iff_eq.2 fk3)) ?_
    refine J.run 6 K14_10 [(37, .agg #[iv op, iv 0, iv 0, iv 0, iv 0]), (5, iv op), (4, pv b3), (2, pv b1), (0, .string s)] w11 (by kernel_rfl) ?_
    refine J.new S11 6 kvW21_1 44 (by kernel_rfl) ?_
    intro b5 w12 S12
    refine J.stBox S12 0 44 0 (.agg #[iv op, iv 0, iv 0, iv 0, iv 0]) [iv op, iv 0, iv 0, iv 0, iv 0] [box b5 [iv op, iv 0, iv 0, iv 0, iv 0] 44, box bd5 (rowsL.flatMap rwoE) 74, box b4 (rowsL.flatMap rwoE) 74, box b3 [.slice (some ⟨b2, 0, none⟩) ((piecesB 32 s).length) ((piecesB 32 s).length)] 79, box b2 ((piecesB 32 s).map Value.string) 9, box b1 kvW21_1 44] (by kernel_rfl) rfl (by kernel_rfl) (by kernel_rfl) rfl ?_
    intro w13 S13
    refine J.run 4 K14_11 [(6, pv b5), (5, iv op), (4, pv b3), (2, pv b1), (0, .string s)] w13 (by kernel_rfl) ?_
    refine J.callF 38 42 #[] hb42 (by kernel_rfl) (rows_any _) ?_
    rintro _ w14 ⟨b6, rfl, T5⟩
    have S14 : Sep w [box b6 (rowsL.flatMap rwoE) 74, box b5 [iv op, iv 0, iv 0, iv 0, iv 0] 44, box bd5 (rowsL.flatMap rwoE) 74, box b4 (rowsL.flatMap rwoE) 74, box b3 [.slice (some ⟨b2, 0, none⟩) ((piecesB 32 s).length) ((piecesB 32 s).length)] 79, box b2 ((piecesB 32 s).map Value.string) 9, box b1 kvW21_1 44] w14 := S13.trans T5
    clear T5 S13
    refine J.run 1 K14_12 [(39, iv op), (38, .slice (some ⟨b6, 0, none⟩) 23 23), (6, pv b5), (4, pv b3), (2, pv b1), (0, .string s)] w14 (by kernel_rfl) ?_
    refine J.ok (OK.index 40 75 3 (some ⟨b6, 0, none⟩) ⟨b6, 0, none⟩ 23 (op).toNat op ⟨b6, ((op).toNat) * 3, none⟩ (by kernel_rfl) (by kernel_rfl) rfl (by omega) (by first | omega | (simp; omega)) (by rw [add_block, Nat.zero_add])) ?_
    refine J.run 1 K14_13 [(41, .pointer (some ⟨b6, ((op).toNat) * 3 + 1, none⟩)), (6, pv b5), (4, pv b3), (2, pv b1), (0, .string s)] w14 (by kernel_rfl) ?_
    refine J.ok (OK.ldCell 42 9 ⟨b6, ((op).toNat) * 3 + 1, none⟩ (.string ((rowsL.getD ((op).toNat) rwo0).gfields)) (by kernel_rfl) (by kernel_rfl) (box_rec_one (s := 3) (S14.nth 0 rfl) (fun _ => rfl) (by decide) rwo0 ((op).toNat) (by first | omega | (simp; omega)) 1 _ rfl)) ?_
    refine J.strBytes S14 43 9 40 5 ((rowsL.getD ((op).toNat) rwo0).gfields) (by kernel_rfl) (by kernel_rfl) ?_
    intro b7 cq1 w15 S15
    refine J.run 5 K14_14 [(45, iv 0), (44, iv (((rowsL.getD ((op).toNat) rwo0).gfields).size : Int)), (43, .slice (some ⟨b7, 0, none⟩) (((rowsL.getD ((op).toNat) rwo0).gfields).size) cq1), (6, pv b5), (4, pv b3), (2, pv b1), (0, .string s)] w15 (by kernel_rfl) ?_
    have L14_1 : ∀ (mm_ : Nat) (a : Int) (b : Int) (c : Int) (q : Int) (k : Int) (w16 : World), (0 ≤ k) → (k ≤ (((rowsL.getD ((op).toNat) rwo0).gfields).size : Int)) → ((-9223372036854775808 ≤ a ∧ a ≤ 9223372036854775807) ∧ (-9223372036854775808 ≤ b ∧ b ≤ 9223372036854775807) ∧ (-9223372036854775808 ≤ c ∧ c ≤ 9223372036854775807) ∧ (-9223372036854775808 ≤ q ∧ q ≤ 9223372036854775807)) → (atW matW s op k (⟨op, a, b, c, q⟩ : Ins)) → Sep w [rows8 b7 ((rowsL.getD ((op).toNat) rwo0).gfields), box b6 (rowsL.flatMap rwoE) 74, box b5 [iv op, iv a, iv b, iv c, iv q] 44, box bd5 (rowsL.flatMap rwoE) 74, box b4 (rowsL.flatMap rwoE) 74, box b3 [.slice (some ⟨b2, 0, none⟩) ((piecesB 32 s).length) ((piecesB 32 s).length)] 79, box b2 ((piecesB 32 s).map Value.string) 9, box b1 kvW21_1 44] w16 → ((((rowsL.getD ((op).toNat) rwo0).gfields).size : Int) - k).toNat = mm_ → J Tryz.prog 14 89 R K14_14 [(45, iv k), (44, iv (((rowsL.getD ((op).toNat) rwo0).gfields).size : Int)), (43, .slice (some ⟨b7, 0, none⟩) (((rowsL.getD ((op).toNat) rwo0).gfields).size) cq1), (6, pv b5), (4, pv b3), (2, pv b1), (0, .string s)] w16 := by
     intro mm1
     induction mm1 using Nat.strongRecOn with
     | _ mm1 ih1 =>
     intro a b c q k w16 h0 h1 hb hG S16 hm1
     have hrw := rows_at (op := op) (by omega)
     have hrz := rows_size (op := op) (by omega)
     refine J.run 5 K14_15 [(46, .bool (decide (k < (((rowsL.getD ((op).toNat) rwo0).gfields).size : Int)))), (45, iv k), (44, iv (((rowsL.getD ((op).toNat) rwo0).gfields).size : Int)), (43, .slice (some ⟨b7, 0, none⟩) (((rowsL.getD ((op).toNat) rwo0).gfields).size) cq1), (6, pv b5), (4, pv b3), (2, pv b1), (0, .string s)] w16 (by kernel_rfl) ?_
     by_cases fk4 : k < (((rowsL.getD ((op).toNat) rwo0).gfields).size : Int)
     ·skip
      refine J.head (.bool true) (congrArg Value.bool (decide_eq_true fk4)) ?_
      refine J.run 7 K14_16 [(47, iv k), (45, iv k), (44, iv (((rowsL.getD ((op).toNat) rwo0).gfields).size : Int)), (43, .slice (some ⟨b7, 0, none⟩) (((rowsL.getD ((op).toNat) rwo0).gfields).size) cq1), (6, pv b5), (4, pv b3), (2, pv b1), (0, .string s)] w16 (by kernel_rfl) ?_
      obtain ⟨p1, hp1, hc1⟩ := rows8_at (S16.nth 0 rfl) (k).toNat (by first | omega | (simp; omega))
      have := byteAt_bounds ((rowsL.getD ((op).toNat) rwo0).gfields) (k).toNat
      refine J.ok (OK.index 48 40 1 (some ⟨b7, 0, none⟩) p1 (((rowsL.getD ((op).toNat) rwo0).gfields).size) (k).toNat k (p1.add (k).toNat) (by kernel_rfl) (by kernel_rfl) hp1 (by omega) (by first | omega | (simp; omega)) (by rw [Nat.mul_one])) ?_
      refine J.ok (OK.ldCell 49 5 (p1.add (k).toNat) (.int .u8 (byteAt ((rowsL.getD ((op).toNat) rwo0).gfields) (k).toNat)) (by kernel_rfl) (by kernel_rfl) hc1) ?_
      refine J.run 5 K14_17 [(8, .int .u8 (byteAt ((rowsL.getD ((op).toNat) rwo0).gfields) (k).toNat)), (7, iv k), (45, iv k), (44, iv (((rowsL.getD ((op).toNat) rwo0).gfields).size : Int)), (43, .slice (some ⟨b7, 0, none⟩) (((rowsL.getD ((op).toNat) rwo0).gfields).size) cq1), (6, pv b5), (4, pv b3), (2, pv b1), (0, .string s)] w16 (by kernel_rfl) ?_
      refine J.ok (OK.ldBox S16 5 50 79 0 (.slice (some ⟨b2, 0, none⟩) ((piecesB 32 s).length) ((piecesB 32 s).length)) (by kernel_rfl) rfl (by kernel_rfl)) ?_
      refine J.run 2 K14_18 [(52, iv (IntKind.wrap .i64 (k + 1))), (50, .slice (some ⟨b2, 0, none⟩) ((piecesB 32 s).length) ((piecesB 32 s).length)), (8, .int .u8 (byteAt ((rowsL.getD ((op).toNat) rwo0).gfields) (k).toNat)), (45, iv k), (44, iv (((rowsL.getD ((op).toNat) rwo0).gfields).size : Int)), (43, .slice (some ⟨b7, 0, none⟩) (((rowsL.getD ((op).toNat) rwo0).gfields).size) cq1), (6, pv b5), (4, pv b3), (2, pv b1), (0, .string s)] w16 (by kernel_rfl) ?_
      refine J.head (iv (k + 1)) (congrArg (Value.int .i64) (IntWalk.i64_in _ (by omega))) ?_
      refine J.ok (OK.index 53 79 1 (some ⟨b2, 0, none⟩) ⟨b2, 0, none⟩ ((piecesB 32 s).length) (k + 1).toNat (k + 1) ⟨b2, (k + 1).toNat, none⟩ (by kernel_rfl) (by kernel_rfl) rfl (by omega) (by first | omega | (simp; omega)) (by rw [Nat.mul_one, add_block, Nat.zero_add])) ?_
      refine J.ok (OK.ldArr Value.string S16 6 54 9 ((k + 1).toNat) ByteArray.empty (by kernel_rfl) (by kernel_rfl) rfl (by first | omega | (simp; omega))) ?_
      refine J.run 8 K14_19 [(56, .bool ((byteAt ((rowsL.getD ((op).toNat) rwo0).gfields) (k).toNat) != 75)), (9, .string ((piecesB 32 s).getD ((k + 1).toNat) ByteArray.empty)), (8, .int .u8 (byteAt ((rowsL.getD ((op).toNat) rwo0).gfields) (k).toNat)), (45, iv k), (44, iv (((rowsL.getD ((op).toNat) rwo0).gfields).size : Int)), (43, .slice (some ⟨b7, 0, none⟩) (((rowsL.getD ((op).toNat) rwo0).gfields).size) cq1), (6, pv b5), (4, pv b3), (2, pv b1), (0, .string s)] w16 (by kernel_rfl) ?_
      by_cases fk5 : (byteAt ((rowsL.getD ((op).toNat) rwo0).gfields) (k).toNat) = 75
      ·skip
       refine J.head (.bool false) (congrArg Value.bool (bne_eq_false_iff_eq.2 fk5)) ?_
       refine J.run 5 K14_20 [(60, .string ((piecesB 32 s).getD ((k + 1).toNat) ByteArray.empty)), (8, .int .u8 (byteAt ((rowsL.getD ((op).toNat) rwo0).gfields) (k).toNat)), (45, iv k), (44, iv (((rowsL.getD ((op).toNat) rwo0).gfields).size : Int)), (43, .slice (some ⟨b7, 0, none⟩) (((rowsL.getD ((op).toNat) rwo0).gfields).size) cq1), (6, pv b5), (4, pv b3), (2, pv b1), (0, .string s)] w16 (by kernel_rfl) ?_
       rcases Bool.eq_false_or_eq_true ((atM (ls ((piecesB 32 s).getD ((k + 1).toNat) ByteArray.empty))).isSome) with fk6 | fk6
       ·skip
        have hps_ := piece_size 32 s (k + 1).toNat
        have := atM_bd (ls ((piecesB 32 s).getD ((k + 1).toNat) ByteArray.empty))
        refine J.callF 61 49 #[.string ((piecesB 32 s).getD ((k + 1).toNat) ByteArray.empty)] hb49 (by kernel_rfl) (atoi_some ((piecesB 32 s).getD ((k + 1).toNat) ByteArray.empty) _ (by omega) fk6) ?_
        rintro _ w17 ⟨rfl, T6⟩
        have S17 : Sep w [rows8 b7 ((rowsL.getD ((op).toNat) rwo0).gfields), box b6 (rowsL.flatMap rwoE) 74, box b5 [iv op, iv a, iv b, iv c, iv q] 44, box bd5 (rowsL.flatMap rwoE) 74, box b4 (rowsL.flatMap rwoE) 74, box b3 [.slice (some ⟨b2, 0, none⟩) ((piecesB 32 s).length) ((piecesB 32 s).length)] 79, box b2 ((piecesB 32 s).map Value.string) 9, box b1 kvW21_1 44] w17 := S16.trans T6
        clear T6 S16
        refine J.run 24 K14_21 [(70, .bool ((byteAt ((rowsL.getD ((op).toNat) rwo0).gfields) (k).toNat) == 65)), (67, .int .u8 (byteAt ((rowsL.getD ((op).toNat) rwo0).gfields) (k).toNat)), (10, iv ((atM (ls ((piecesB 32 s).getD ((k + 1).toNat) ByteArray.empty))).getD 0)), (45, iv k), (44, iv (((rowsL.getD ((op).toNat) rwo0).gfields).size : Int)), (43, .slice (some ⟨b7, 0, none⟩) (((rowsL.getD ((op).toNat) rwo0).gfields).size) cq1), (6, pv b5), (4, pv b3), (2, pv b1), (0, .string s)] w17 (by kernel_rfl) ?_
        by_cases fk7 : (byteAt ((rowsL.getD ((op).toNat) rwo0).gfields) (k).toNat) = 65
        ·skip
         refine J.head (.bool true) (congrArg Value.bool (beq_iff_eq.2 fk7)) ?_
         refine J.run 4 K14_22 [(73, .pointer (some ⟨b5, 1, none⟩)), (72, iv ((atM (ls ((piecesB 32 s).getD ((k + 1).toNat) ByteArray.empty))).getD 0)), (45, iv k), (44, iv (((rowsL.getD ((op).toNat) rwo0).gfields).size : Int)), (43, .slice (some ⟨b7, 0, none⟩) (((rowsL.getD ((op).toNat) rwo0).gfields).size) cq1), (6, pv b5), (4, pv b3), (2, pv b1), (0, .string s)] w17 (by kernel_rfl) ?_
         refine J.stBox S17 2 3 1 (iv ((atM (ls ((piecesB 32 s).getD ((k + 1).toNat) ByteArray.empty))).getD 0)) [iv op, iv ((atM (ls ((piecesB 32 s).getD ((k + 1).toNat) ByteArray.empty))).getD 0), iv b, iv c, iv q] [rows8 b7 ((rowsL.getD ((op).toNat) rwo0).gfields), box b6 (rowsL.flatMap rwoE) 74, box b5 [iv op, iv ((atM (ls ((piecesB 32 s).getD ((k + 1).toNat) ByteArray.empty))).getD 0), iv b, iv c, iv q] 44, box bd5 (rowsL.flatMap rwoE) 74, box b4 (rowsL.flatMap rwoE) 74, box b3 [.slice (some ⟨b2, 0, none⟩) ((piecesB 32 s).length) ((piecesB 32 s).length)] 79, box b2 ((piecesB 32 s).map Value.string) 9, box b1 kvW21_1 44] (by kernel_rfl) rfl (by kernel_rfl) (by kernel_rfl) rfl ?_
         intro w18 S18
         refine J.run 5 K14_23 [(82, iv (IntKind.wrap .i64 (k + 1))), (44, iv (((rowsL.getD ((op).toNat) rwo0).gfields).size : Int)), (43, .slice (some ⟨b7, 0, none⟩) (((rowsL.getD ((op).toNat) rwo0).gfields).size) cq1), (6, pv b5), (4, pv b3), (2, pv b1), (0, .string s)] w18 (by kernel_rfl) ?_
         refine J.head (iv (k + 1)) (congrArg (Value.int .i64) (IntWalk.i64_in _ (by omega))) ?_
         refine J.run 3 K14_14 [(45, iv (k + 1)), (44, iv (((rowsL.getD ((op).toNat) rwo0).gfields).size : Int)), (43, .slice (some ⟨b7, 0, none⟩) (((rowsL.getD ((op).toNat) rwo0).gfields).size) cq1), (6, pv b5), (4, pv b3), (2, pv b1), (0, .string s)] w18 (by kernel_rfl) ?_
         refine J.run 0 K14_14 [(45, iv (k + 1)), (44, iv (((rowsL.getD ((op).toNat) rwo0).gfields).size : Int)), (43, .slice (some ⟨b7, 0, none⟩) (((rowsL.getD ((op).toNat) rwo0).gfields).size) cq1), (6, pv b5), (4, pv b3), (2, pv b1), (0, .string s)] w18 (by kernel_rfl) ?_
         exact ih1 _ (show ((((rowsL.getD ((op).toNat) rwo0).gfields).size : Int) - (k + 1)).toNat < mm1 from by omega) ((atM (ls ((piecesB 32 s).getD ((k + 1).toNat) ByteArray.empty))).getD 0) b c q (k + 1) w18 (by omega) (by omega) (by omega) (by have h_ := atW_next hG h0 (by rw [← hrw.2.1]; omega) (w := ((piecesB 32 s).getD (k + 1).toNat ByteArray.empty)) rfl (by rw [← hrw.2.1]; omega) (by rw [← hrw.2.1]; exact (mat_k (by omega)).trans (at_some fk6)); rw [← hrw.2.1, set_val.1 (by omega)] at h_; exact h_) S18 rfl
        ·skip
         refine J.head (.bool false) (congrArg Value.bool (beq_eq_false_iff_ne.2 fk7)) ?_
         refine J.run 6 K14_24 [(74, .bool ((byteAt ((rowsL.getD ((op).toNat) rwo0).gfields) (k).toNat) == 66)), (67, .int .u8 (byteAt ((rowsL.getD ((op).toNat) rwo0).gfields) (k).toNat)), (10, iv ((atM (ls ((piecesB 32 s).getD ((k + 1).toNat) ByteArray.empty))).getD 0)), (45, iv k), (44, iv (((rowsL.getD ((op).toNat) rwo0).gfields).size : Int)), (43, .slice (some ⟨b7, 0, none⟩) (((rowsL.getD ((op).toNat) rwo0).gfields).size) cq1), (6, pv b5), (4, pv b3), (2, pv b1), (0, .string s)] w17 (by kernel_rfl) ?_
         by_cases fk8 : (byteAt ((rowsL.getD ((op).toNat) rwo0).gfields) (k).toNat) = 66
         ·skip
          refine J.head (.bool true) (congrArg Value.bool (beq_iff_eq.2 fk8)) ?_
          refine J.run 4 K14_25 [(77, .pointer (some ⟨b5, 2, none⟩)), (76, iv ((atM (ls ((piecesB 32 s).getD ((k + 1).toNat) ByteArray.empty))).getD 0)), (45, iv k), (44, iv (((rowsL.getD ((op).toNat) rwo0).gfields).size : Int)), (43, .slice (some ⟨b7, 0, none⟩) (((rowsL.getD ((op).toNat) rwo0).gfields).size) cq1), (6, pv b5), (4, pv b3), (2, pv b1), (0, .string s)] w17 (by kernel_rfl) ?_
          refine J.stBox S17 2 3 2 (iv ((atM (ls ((piecesB 32 s).getD ((k + 1).toNat) ByteArray.empty))).getD 0)) [iv op, iv a, iv ((atM (ls ((piecesB 32 s).getD ((k + 1).toNat) ByteArray.empty))).getD 0), iv c, iv q] [rows8 b7 ((rowsL.getD ((op).toNat) rwo0).gfields), box b6 (rowsL.flatMap rwoE) 74, box b5 [iv op, iv a, iv ((atM (ls ((piecesB 32 s).getD ((k + 1).toNat) ByteArray.empty))).getD 0), iv c, iv q] 44, box bd5 (rowsL.flatMap rwoE) 74, box b4 (rowsL.flatMap rwoE) 74, box b3 [.slice (some ⟨b2, 0, none⟩) ((piecesB 32 s).length) ((piecesB 32 s).length)] 79, box b2 ((piecesB 32 s).map Value.string) 9, box b1 kvW21_1 44] (by kernel_rfl) rfl (by kernel_rfl) (by kernel_rfl) rfl ?_
          intro w19 S19
          refine J.run 5 K14_26 [(82, iv (IntKind.wrap .i64 (k + 1))), (44, iv (((rowsL.getD ((op).toNat) rwo0).gfields).size : Int)), (43, .slice (some ⟨b7, 0, none⟩) (((rowsL.getD ((op).toNat) rwo0).gfields).size) cq1), (6, pv b5), (4, pv b3), (2, pv b1), (0, .string s)] w19 (by kernel_rfl) ?_
          refine J.head (iv (k + 1)) (congrArg (Value.int .i64) (IntWalk.i64_in _ (by omega))) ?_
          refine J.run 3 K14_14 [(45, iv (k + 1)), (44, iv (((rowsL.getD ((op).toNat) rwo0).gfields).size : Int)), (43, .slice (some ⟨b7, 0, none⟩) (((rowsL.getD ((op).toNat) rwo0).gfields).size) cq1), (6, pv b5), (4, pv b3), (2, pv b1), (0, .string s)] w19 (by kernel_rfl) ?_
          refine J.run 0 K14_14 [(45, iv (k + 1)), (44, iv (((rowsL.getD ((op).toNat) rwo0).gfields).size : Int)), (43, .slice (some ⟨b7, 0, none⟩) (((rowsL.getD ((op).toNat) rwo0).gfields).size) cq1), (6, pv b5), (4, pv b3), (2, pv b1), (0, .string s)] w19 (by kernel_rfl) ?_
          exact ih1 _ (show ((((rowsL.getD ((op).toNat) rwo0).gfields).size : Int) - (k + 1)).toNat < mm1 from by omega) a ((atM (ls ((piecesB 32 s).getD ((k + 1).toNat) ByteArray.empty))).getD 0) c q (k + 1) w19 (by omega) (by omega) (by omega) (by have h_ := atW_next hG h0 (by rw [← hrw.2.1]; omega) (w := ((piecesB 32 s).getD (k + 1).toNat ByteArray.empty)) rfl (by rw [← hrw.2.1]; omega) (by rw [← hrw.2.1]; exact (mat_k (by omega)).trans (at_some fk6)); rw [← hrw.2.1, set_val.2.1 (by omega)] at h_; exact h_) S19 rfl
         ·skip
          refine J.head (.bool false) (congrArg Value.bool (beq_eq_false_iff_ne.2 fk8)) ?_
          refine J.run 6 K14_27 [(78, .bool ((byteAt ((rowsL.getD ((op).toNat) rwo0).gfields) (k).toNat) == 67)), (10, iv ((atM (ls ((piecesB 32 s).getD ((k + 1).toNat) ByteArray.empty))).getD 0)), (45, iv k), (44, iv (((rowsL.getD ((op).toNat) rwo0).gfields).size : Int)), (43, .slice (some ⟨b7, 0, none⟩) (((rowsL.getD ((op).toNat) rwo0).gfields).size) cq1), (6, pv b5), (4, pv b3), (2, pv b1), (0, .string s)] w17 (by kernel_rfl) ?_
          by_cases fk9 : (byteAt ((rowsL.getD ((op).toNat) rwo0).gfields) (k).toNat) = 67
          ·skip
           refine J.head (.bool true) (congrArg Value.bool (beq_iff_eq.2 fk9)) ?_
           refine J.run 4 K14_28 [(81, .pointer (some ⟨b5, 3, none⟩)), (80, iv ((atM (ls ((piecesB 32 s).getD ((k + 1).toNat) ByteArray.empty))).getD 0)), (45, iv k), (44, iv (((rowsL.getD ((op).toNat) rwo0).gfields).size : Int)), (43, .slice (some ⟨b7, 0, none⟩) (((rowsL.getD ((op).toNat) rwo0).gfields).size) cq1), (6, pv b5), (4, pv b3), (2, pv b1), (0, .string s)] w17 (by kernel_rfl) ?_
           refine J.stBox S17 2 3 3 (iv ((atM (ls ((piecesB 32 s).getD ((k + 1).toNat) ByteArray.empty))).getD 0)) [iv op, iv a, iv b, iv ((atM (ls ((piecesB 32 s).getD ((k + 1).toNat) ByteArray.empty))).getD 0), iv q] [rows8 b7 ((rowsL.getD ((op).toNat) rwo0).gfields), box b6 (rowsL.flatMap rwoE) 74, box b5 [iv op, iv a, iv b, iv ((atM (ls ((piecesB 32 s).getD ((k + 1).toNat) ByteArray.empty))).getD 0), iv q] 44, box bd5 (rowsL.flatMap rwoE) 74, box b4 (rowsL.flatMap rwoE) 74, box b3 [.slice (some ⟨b2, 0, none⟩) ((piecesB 32 s).length) ((piecesB 32 s).length)] 79, box b2 ((piecesB 32 s).map Value.string) 9, box b1 kvW21_1 44] (by kernel_rfl) rfl (by kernel_rfl) (by kernel_rfl) rfl ?_
           intro w20 S20
           refine J.run 5 K14_29 [(82, iv (IntKind.wrap .i64 (k + 1))), (44, iv (((rowsL.getD ((op).toNat) rwo0).gfields).size : Int)), (43, .slice (some ⟨b7, 0, none⟩) (((rowsL.getD ((op).toNat) rwo0).gfields).size) cq1), (6, pv b5), (4, pv b3), (2, pv b1), (0, .string s)] w20 (by kernel_rfl) ?_
           refine J.head (iv (k + 1)) (congrArg (Value.int .i64) (IntWalk.i64_in _ (by omega))) ?_
           refine J.run 3 K14_14 [(45, iv (k + 1)), (44, iv (((rowsL.getD ((op).toNat) rwo0).gfields).size : Int)), (43, .slice (some ⟨b7, 0, none⟩) (((rowsL.getD ((op).toNat) rwo0).gfields).size) cq1), (6, pv b5), (4, pv b3), (2, pv b1), (0, .string s)] w20 (by kernel_rfl) ?_
           refine J.run 0 K14_14 [(45, iv (k + 1)), (44, iv (((rowsL.getD ((op).toNat) rwo0).gfields).size : Int)), (43, .slice (some ⟨b7, 0, none⟩) (((rowsL.getD ((op).toNat) rwo0).gfields).size) cq1), (6, pv b5), (4, pv b3), (2, pv b1), (0, .string s)] w20 (by kernel_rfl) ?_
           exact ih1 _ (show ((((rowsL.getD ((op).toNat) rwo0).gfields).size : Int) - (k + 1)).toNat < mm1 from by omega) a b ((atM (ls ((piecesB 32 s).getD ((k + 1).toNat) ByteArray.empty))).getD 0) q (k + 1) w20 (by omega) (by omega) (by omega) (by have h_ := atW_next hG h0 (by rw [← hrw.2.1]; omega) (w := ((piecesB 32 s).getD (k + 1).toNat ByteArray.empty)) rfl (by rw [← hrw.2.1]; omega) (by rw [← hrw.2.1]; exact (mat_k (by omega)).trans (at_some fk6)); rw [← hrw.2.1, set_val.2.2.1 (by omega)] at h_; exact h_) S20 rfl
          ·skip
           refine J.head (.bool false) (congrArg Value.bool (beq_eq_false_iff_ne.2 fk9)) ?_
           refine J.run 4 K14_30 [(69, .pointer (some ⟨b5, 4, none⟩)), (68, iv ((atM (ls ((piecesB 32 s).getD ((k + 1).toNat) ByteArray.empty))).getD 0)), (45, iv k), (44, iv (((rowsL.getD ((op).toNat) rwo0).gfields).size : Int)), (43, .slice (some ⟨b7, 0, none⟩) (((rowsL.getD ((op).toNat) rwo0).gfields).size) cq1), (6, pv b5), (4, pv b3), (2, pv b1), (0, .string s)] w17 (by kernel_rfl) ?_
           refine J.stBox S17 2 3 4 (iv ((atM (ls ((piecesB 32 s).getD ((k + 1).toNat) ByteArray.empty))).getD 0)) [iv op, iv a, iv b, iv c, iv ((atM (ls ((piecesB 32 s).getD ((k + 1).toNat) ByteArray.empty))).getD 0)] [rows8 b7 ((rowsL.getD ((op).toNat) rwo0).gfields), box b6 (rowsL.flatMap rwoE) 74, box b5 [iv op, iv a, iv b, iv c, iv ((atM (ls ((piecesB 32 s).getD ((k + 1).toNat) ByteArray.empty))).getD 0)] 44, box bd5 (rowsL.flatMap rwoE) 74, box b4 (rowsL.flatMap rwoE) 74, box b3 [.slice (some ⟨b2, 0, none⟩) ((piecesB 32 s).length) ((piecesB 32 s).length)] 79, box b2 ((piecesB 32 s).map Value.string) 9, box b1 kvW21_1 44] (by kernel_rfl) rfl (by kernel_rfl) (by kernel_rfl) rfl ?_
           intro w21 S21
           refine J.run 5 K14_31 [(82, iv (IntKind.wrap .i64 (k + 1))), (44, iv (((rowsL.getD ((op).toNat) rwo0).gfields).size : Int)), (43, .slice (some ⟨b7, 0, none⟩) (((rowsL.getD ((op).toNat) rwo0).gfields).size) cq1), (6, pv b5), (4, pv b3), (2, pv b1), (0, .string s)] w21 (by kernel_rfl) ?_
           refine J.head (iv (k + 1)) (congrArg (Value.int .i64) (IntWalk.i64_in _ (by omega))) ?_
           refine J.run 3 K14_14 [(45, iv (k + 1)), (44, iv (((rowsL.getD ((op).toNat) rwo0).gfields).size : Int)), (43, .slice (some ⟨b7, 0, none⟩) (((rowsL.getD ((op).toNat) rwo0).gfields).size) cq1), (6, pv b5), (4, pv b3), (2, pv b1), (0, .string s)] w21 (by kernel_rfl) ?_
           refine J.run 0 K14_14 [(45, iv (k + 1)), (44, iv (((rowsL.getD ((op).toNat) rwo0).gfields).size : Int)), (43, .slice (some ⟨b7, 0, none⟩) (((rowsL.getD ((op).toNat) rwo0).gfields).size) cq1), (6, pv b5), (4, pv b3), (2, pv b1), (0, .string s)] w21 (by kernel_rfl) ?_
           exact ih1 _ (show ((((rowsL.getD ((op).toNat) rwo0).gfields).size : Int) - (k + 1)).toNat < mm1 from by omega) a b c ((atM (ls ((piecesB 32 s).getD ((k + 1).toNat) ByteArray.empty))).getD 0) (k + 1) w21 (by omega) (by omega) (by omega) (by have h_ := atW_next hG h0 (by rw [← hrw.2.1]; omega) (w := ((piecesB 32 s).getD (k + 1).toNat ByteArray.empty)) rfl (by rw [← hrw.2.1]; omega) (by rw [← hrw.2.1]; exact (mat_k (by omega)).trans (at_some fk6)); rw [← hrw.2.1, set_val.2.2.2 (by omega) (by omega) (by omega)] at h_; exact h_) S21 rfl
       ·skip
        have hps_ := piece_size 32 s (k + 1).toNat
        refine J.callF 61 49 #[.string ((piecesB 32 s).getD ((k + 1).toNat) ByteArray.empty)] hb49 (by kernel_rfl) (atoi_none ((piecesB 32 s).getD ((k + 1).toNat) ByteArray.empty) _ (by omega) fk6 (tabW_sep hW S16)) ?_
        rintro _ w22 ⟨ex1, en1, rfl, T7⟩
        have S22 : Sep w [rows8 b7 ((rowsL.getD ((op).toNat) rwo0).gfields), box b6 (rowsL.flatMap rwoE) 74, box b5 [iv op, iv a, iv b, iv c, iv q] 44, box bd5 (rowsL.flatMap rwoE) 74, box b4 (rowsL.flatMap rwoE) 74, box b3 [.slice (some ⟨b2, 0, none⟩) ((piecesB 32 s).length) ((piecesB 32 s).length)] 79, box b2 ((piecesB 32 s).map Value.string) 9, box b1 kvW21_1 44] w22 := S16.trans T7
        clear T7 S16
        refine J.run 16 K14_32 [(66, .agg kvW21_2), (2, pv b1)] w22 (by kernel_rfl) ?_
        refine J.stBox S22 7 44 0 (.agg kvW21_2) kvW21_1 [rows8 b7 ((rowsL.getD ((op).toNat) rwo0).gfields), box b6 (rowsL.flatMap rwoE) 74, box b5 [iv op, iv a, iv b, iv c, iv q] 44, box bd5 (rowsL.flatMap rwoE) 74, box b4 (rowsL.flatMap rwoE) 74, box b3 [.slice (some ⟨b2, 0, none⟩) ((piecesB 32 s).length) ((piecesB 32 s).length)] 79, box b2 ((piecesB 32 s).map Value.string) 9, box b1 kvW21_1 44] (by kernel_rfl) rfl (by kernel_rfl) (by kernel_rfl) rfl ?_
        intro w23 S23
        refine J.run 2 K14_33 [(3, iv 3), (2, pv b1)] w23 (by kernel_rfl) ?_
        refine J.ret Tryz.f14 [.agg kvW21_2, iv 3] Tryz.func14 ⟨⟨⟨b1, 0, none⟩, by kernel_rfl, ldV_run (S23.nth 7 rfl) (by kernel_rfl)⟩, by kernel_rfl, trivial⟩ ?_
        refine hR _ _ ?_
        obtain ⟨e1, e2⟩ := mat_none (s := s) (by omega) (atW_none hG h0 (by rw [← hrw.2.1]; omega) rfl (by rw [← hrw.2.1]; omega) (by rw [← hrw.2.1]; exact (mat_k (by omega)).trans (at_none fk6)))
        exact ⟨by rw [e1, e2]; rfl, S23.nil⟩
      ·skip
       refine J.head (.bool true) (congrArg Value.bool (bne_iff_ne.2 fk5)) ?_
       refine J.run 3 K14_34 [(57, .string ((piecesB 32 s).getD ((k + 1).toNat) ByteArray.empty)), (8, .int .u8 (byteAt ((rowsL.getD ((op).toNat) rwo0).gfields) (k).toNat)), (45, iv k), (44, iv (((rowsL.getD ((op).toNat) rwo0).gfields).size : Int)), (43, .slice (some ⟨b7, 0, none⟩) (((rowsL.getD ((op).toNat) rwo0).gfields).size) cq1), (6, pv b5), (4, pv b3), (2, pv b1), (0, .string s)] w16 (by kernel_rfl) ?_
       refine J.callF 58 48 #[.string ((piecesB 32 s).getD ((k + 1).toNat) ByteArray.empty), .string ⟨#[114]⟩] hb48 (by kernel_rfl) (trimprefix_any ((piecesB 32 s).getD ((k + 1).toNat) ByteArray.empty) (⟨#[114]⟩ : ByteArray) _) ?_
       rintro _ w24 ⟨rfl, T8⟩
       have S24 : Sep w [rows8 b7 ((rowsL.getD ((op).toNat) rwo0).gfields), box b6 (rowsL.flatMap rwoE) 74, box b5 [iv op, iv a, iv b, iv c, iv q] 44, box bd5 (rowsL.flatMap rwoE) 74, box b4 (rowsL.flatMap rwoE) 74, box b3 [.slice (some ⟨b2, 0, none⟩) ((piecesB 32 s).length) ((piecesB 32 s).length)] 79, box b2 ((piecesB 32 s).map Value.string) 9, box b1 kvW21_1 44] w24 := S16.trans T8
       clear T8 S16
       refine J.run 5 K14_35 [(60, .string (⟨(Lib.trimPrefix (ls ((piecesB 32 s).getD ((k + 1).toNat) ByteArray.empty)) (ls (⟨#[114]⟩ : ByteArray))).toArray⟩ : ByteArray)), (8, .int .u8 (byteAt ((rowsL.getD ((op).toNat) rwo0).gfields) (k).toNat)), (45, iv k), (44, iv (((rowsL.getD ((op).toNat) rwo0).gfields).size : Int)), (43, .slice (some ⟨b7, 0, none⟩) (((rowsL.getD ((op).toNat) rwo0).gfields).size) cq1), (6, pv b5), (4, pv b3), (2, pv b1), (0, .string s)] w24 (by kernel_rfl) ?_
       rcases Bool.eq_false_or_eq_true ((atM (ls (⟨(Lib.trimPrefix (ls ((piecesB 32 s).getD ((k + 1).toNat) ByteArray.empty)) (ls (⟨#[114]⟩ : ByteArray))).toArray⟩ : ByteArray))).isSome) with fk10 | fk10
       ·skip
        have hps_ := piece_size 32 s (k + 1).toNat
        have hts_ := trim_size ((piecesB 32 s).getD (k + 1).toNat ByteArray.empty) (⟨#[114]⟩ : ByteArray)
        have := atM_bd (ls (⟨(Lib.trimPrefix (ls ((piecesB 32 s).getD ((k + 1).toNat) ByteArray.empty)) (ls (⟨#[114]⟩ : ByteArray))).toArray⟩ : ByteArray))
        refine J.callF 61 49 #[.string (⟨(Lib.trimPrefix (ls ((piecesB 32 s).getD ((k + 1).toNat) ByteArray.empty)) (ls (⟨#[114]⟩ : ByteArray))).toArray⟩ : ByteArray)] hb49 (by kernel_rfl) (atoi_some (⟨(Lib.trimPrefix (ls ((piecesB 32 s).getD ((k + 1).toNat) ByteArray.empty)) (ls (⟨#[114]⟩ : ByteArray))).toArray⟩ : ByteArray) _ (by omega) fk10) ?_
        rintro _ w25 ⟨rfl, T9⟩
        have S25 : Sep w [rows8 b7 ((rowsL.getD ((op).toNat) rwo0).gfields), box b6 (rowsL.flatMap rwoE) 74, box b5 [iv op, iv a, iv b, iv c, iv q] 44, box bd5 (rowsL.flatMap rwoE) 74, box b4 (rowsL.flatMap rwoE) 74, box b3 [.slice (some ⟨b2, 0, none⟩) ((piecesB 32 s).length) ((piecesB 32 s).length)] 79, box b2 ((piecesB 32 s).map Value.string) 9, box b1 kvW21_1 44] w25 := S24.trans T9
        clear T9 S24
        refine J.run 24 K14_36 [(70, .bool ((byteAt ((rowsL.getD ((op).toNat) rwo0).gfields) (k).toNat) == 65)), (67, .int .u8 (byteAt ((rowsL.getD ((op).toNat) rwo0).gfields) (k).toNat)), (10, iv ((atM (ls (⟨(Lib.trimPrefix (ls ((piecesB 32 s).getD ((k + 1).toNat) ByteArray.empty)) (ls (⟨#[114]⟩ : ByteArray))).toArray⟩ : ByteArray))).getD 0)), (45, iv k), (44, iv (((rowsL.getD ((op).toNat) rwo0).gfields).size : Int)), (43, .slice (some ⟨b7, 0, none⟩) (((rowsL.getD ((op).toNat) rwo0).gfields).size) cq1), (6, pv b5), (4, pv b3), (2, pv b1), (0, .string s)] w25 (by kernel_rfl) ?_
        by_cases fk11 : (byteAt ((rowsL.getD ((op).toNat) rwo0).gfields) (k).toNat) = 65
        ·skip
         refine J.head (.bool true) (congrArg Value.bool (beq_iff_eq.2 fk11)) ?_
         refine J.run 4 K14_37 [(73, .pointer (some ⟨b5, 1, none⟩)), (72, iv ((atM (ls (⟨(Lib.trimPrefix (ls ((piecesB 32 s).getD ((k + 1).toNat) ByteArray.empty)) (ls (⟨#[114]⟩ : ByteArray))).toArray⟩ : ByteArray))).getD 0)), (45, iv k), (44, iv (((rowsL.getD ((op).toNat) rwo0).gfields).size : Int)), (43, .slice (some ⟨b7, 0, none⟩) (((rowsL.getD ((op).toNat) rwo0).gfields).size) cq1), (6, pv b5), (4, pv b3), (2, pv b1), (0, .string s)] w25 (by kernel_rfl) ?_
         refine J.stBox S25 2 3 1 (iv ((atM (ls (⟨(Lib.trimPrefix (ls ((piecesB 32 s).getD ((k + 1).toNat) ByteArray.empty)) (ls (⟨#[114]⟩ : ByteArray))).toArray⟩ : ByteArray))).getD 0)) [iv op, iv ((atM (ls (⟨(Lib.trimPrefix (ls ((piecesB 32 s).getD ((k + 1).toNat) ByteArray.empty)) (ls (⟨#[114]⟩ : ByteArray))).toArray⟩ : ByteArray))).getD 0), iv b, iv c, iv q] [rows8 b7 ((rowsL.getD ((op).toNat) rwo0).gfields), box b6 (rowsL.flatMap rwoE) 74, box b5 [iv op, iv ((atM (ls (⟨(Lib.trimPrefix (ls ((piecesB 32 s).getD ((k + 1).toNat) ByteArray.empty)) (ls (⟨#[114]⟩ : ByteArray))).toArray⟩ : ByteArray))).getD 0), iv b, iv c, iv q] 44, box bd5 (rowsL.flatMap rwoE) 74, box b4 (rowsL.flatMap rwoE) 74, box b3 [.slice (some ⟨b2, 0, none⟩) ((piecesB 32 s).length) ((piecesB 32 s).length)] 79, box b2 ((piecesB 32 s).map Value.string) 9, box b1 kvW21_1 44] (by kernel_rfl) rfl (by kernel_rfl) (by kernel_rfl) rfl ?_
         intro w26 S26
         refine J.run 5 K14_38 [(82, iv (IntKind.wrap .i64 (k + 1))), (44, iv (((rowsL.getD ((op).toNat) rwo0).gfields).size : Int)), (43, .slice (some ⟨b7, 0, none⟩) (((rowsL.getD ((op).toNat) rwo0).gfields).size) cq1), (6, pv b5), (4, pv b3), (2, pv b1), (0, .string s)] w26 (by kernel_rfl) ?_
         refine J.head (iv (k + 1)) (congrArg (Value.int .i64) (IntWalk.i64_in _ (by omega))) ?_
         refine J.run 3 K14_14 [(45, iv (k + 1)), (44, iv (((rowsL.getD ((op).toNat) rwo0).gfields).size : Int)), (43, .slice (some ⟨b7, 0, none⟩) (((rowsL.getD ((op).toNat) rwo0).gfields).size) cq1), (6, pv b5), (4, pv b3), (2, pv b1), (0, .string s)] w26 (by kernel_rfl) ?_
         refine J.run 0 K14_14 [(45, iv (k + 1)), (44, iv (((rowsL.getD ((op).toNat) rwo0).gfields).size : Int)), (43, .slice (some ⟨b7, 0, none⟩) (((rowsL.getD ((op).toNat) rwo0).gfields).size) cq1), (6, pv b5), (4, pv b3), (2, pv b1), (0, .string s)] w26 (by kernel_rfl) ?_
         exact ih1 _ (show ((((rowsL.getD ((op).toNat) rwo0).gfields).size : Int) - (k + 1)).toNat < mm1 from by omega) ((atM (ls (⟨(Lib.trimPrefix (ls ((piecesB 32 s).getD ((k + 1).toNat) ByteArray.empty)) (ls (⟨#[114]⟩ : ByteArray))).toArray⟩ : ByteArray))).getD 0) b c q (k + 1) w26 (by omega) (by omega) (by omega) (by have h_ := atW_next hG h0 (by rw [← hrw.2.1]; omega) (w := ((piecesB 32 s).getD (k + 1).toNat ByteArray.empty)) rfl (by rw [← hrw.2.1]; omega) (by rw [← hrw.2.1]; exact (mat_r (by omega) rfl).trans (at_some fk10)); rw [← hrw.2.1, set_val.1 (by omega)] at h_; exact h_) S26 rfl
        ·skip
         refine J.head (.bool false) (congrArg Value.bool (beq_eq_false_iff_ne.2 fk11)) ?_
         refine J.run 6 K14_39 [(74, .bool ((byteAt ((rowsL.getD ((op).toNat) rwo0).gfields) (k).toNat) == 66)), (67, .int .u8 (byteAt ((rowsL.getD ((op).toNat) rwo0).gfields) (k).toNat)), (10, iv ((atM (ls (⟨(Lib.trimPrefix (ls ((piecesB 32 s).getD ((k + 1).toNat) ByteArray.empty)) (ls (⟨#[114]⟩ : ByteArray))).toArray⟩ : ByteArray))).getD 0)), (45, iv k), (44, iv (((rowsL.getD ((op).toNat) rwo0).gfields).size : Int)), (43, .slice (some ⟨b7, 0, none⟩) (((rowsL.getD ((op).toNat) rwo0).gfields).size) cq1), (6, pv b5), (4, pv b3), (2, pv b1), (0, .string s)] w25 (by kernel_rfl) ?_
         by_cases fk12 : (byteAt ((rowsL.getD ((op).toNat) rwo0).gfields) (k).toNat) = 66
         ·skip
          refine J.head (.bool true) (congrArg Value.bool (beq_iff_eq.2 fk12)) ?_
          refine J.run 4 K14_40 [(77, .pointer (some ⟨b5, 2, none⟩)), (76, iv ((atM (ls (⟨(Lib.trimPrefix (ls ((piecesB 32 s).getD ((k + 1).toNat) ByteArray.empty)) (ls (⟨#[114]⟩ : ByteArray))).toArray⟩ : ByteArray))).getD 0)), (45, iv k), (44, iv (((rowsL.getD ((op).toNat) rwo0).gfields).size : Int)), (43, .slice (some ⟨b7, 0, none⟩) (((rowsL.getD ((op).toNat) rwo0).gfields).size) cq1), (6, pv b5), (4, pv b3), (2, pv b1), (0, .string s)] w25 (by kernel_rfl) ?_
          refine J.stBox S25 2 3 2 (iv ((atM (ls (⟨(Lib.trimPrefix (ls ((piecesB 32 s).getD ((k + 1).toNat) ByteArray.empty)) (ls (⟨#[114]⟩ : ByteArray))).toArray⟩ : ByteArray))).getD 0)) [iv op, iv a, iv ((atM (ls (⟨(Lib.trimPrefix (ls ((piecesB 32 s).getD ((k + 1).toNat) ByteArray.empty)) (ls (⟨#[114]⟩ : ByteArray))).toArray⟩ : ByteArray))).getD 0), iv c, iv q] [rows8 b7 ((rowsL.getD ((op).toNat) rwo0).gfields), box b6 (rowsL.flatMap rwoE) 74, box b5 [iv op, iv a, iv ((atM (ls (⟨(Lib.trimPrefix (ls ((piecesB 32 s).getD ((k + 1).toNat) ByteArray.empty)) (ls (⟨#[114]⟩ : ByteArray))).toArray⟩ : ByteArray))).getD 0), iv c, iv q] 44, box bd5 (rowsL.flatMap rwoE) 74, box b4 (rowsL.flatMap rwoE) 74, box b3 [.slice (some ⟨b2, 0, none⟩) ((piecesB 32 s).length) ((piecesB 32 s).length)] 79, box b2 ((piecesB 32 s).map Value.string) 9, box b1 kvW21_1 44] (by kernel_rfl) rfl (by kernel_rfl) (by kernel_rfl) rfl ?_
          intro w27 S27
          refine J.run 5 K14_41 [(82, iv (IntKind.wrap .i64 (k + 1))), (44, iv (((rowsL.getD ((op).toNat) rwo0).gfields).size : Int)), (43, .slice (some ⟨b7, 0, none⟩) (((rowsL.getD ((op).toNat) rwo0).gfields).size) cq1), (6, pv b5), (4, pv b3), (2, pv b1), (0, .string s)] w27 (by kernel_rfl) ?_
          refine J.head (iv (k + 1)) (congrArg (Value.int .i64) (IntWalk.i64_in _ (by omega))) ?_
          refine J.run 3 K14_14 [(45, iv (k + 1)), (44, iv (((rowsL.getD ((op).toNat) rwo0).gfields).size : Int)), (43, .slice (some ⟨b7, 0, none⟩) (((rowsL.getD ((op).toNat) rwo0).gfields).size) cq1), (6, pv b5), (4, pv b3), (2, pv b1), (0, .string s)] w27 (by kernel_rfl) ?_
          refine J.run 0 K14_14 [(45, iv (k + 1)), (44, iv (((rowsL.getD ((op).toNat) rwo0).gfields).size : Int)), (43, .slice (some ⟨b7, 0, none⟩) (((rowsL.getD ((op).toNat) rwo0).gfields).size) cq1), (6, pv b5), (4, pv b3), (2, pv b1), (0, .string s)] w27 (by kernel_rfl) ?_
          exact ih1 _ (show ((((rowsL.getD ((op).toNat) rwo0).gfields).size : Int) - (k + 1)).toNat < mm1 from by omega) a ((atM (ls (⟨(Lib.trimPrefix (ls ((piecesB 32 s).getD ((k + 1).toNat) ByteArray.empty)) (ls (⟨#[114]⟩ : ByteArray))).toArray⟩ : ByteArray))).getD 0) c q (k + 1) w27 (by omega) (by omega) (by omega) (by have h_ := atW_next hG h0 (by rw [← hrw.2.1]; omega) (w := ((piecesB 32 s).getD (k + 1).toNat ByteArray.empty)) rfl (by rw [← hrw.2.1]; omega) (by rw [← hrw.2.1]; exact (mat_r (by omega) rfl).trans (at_some fk10)); rw [← hrw.2.1, set_val.2.1 (by omega)] at h_; exact h_) S27 rfl
         ·skip
          refine J.head (.bool false) (congrArg Value.bool (beq_eq_false_iff_ne.2 fk12)) ?_
          refine J.run 6 K14_42 [(78, .bool ((byteAt ((rowsL.getD ((op).toNat) rwo0).gfields) (k).toNat) == 67)), (10, iv ((atM (ls (⟨(Lib.trimPrefix (ls ((piecesB 32 s).getD ((k + 1).toNat) ByteArray.empty)) (ls (⟨#[114]⟩ : ByteArray))).toArray⟩ : ByteArray))).getD 0)), (45, iv k), (44, iv (((rowsL.getD ((op).toNat) rwo0).gfields).size : Int)), (43, .slice (some ⟨b7, 0, none⟩) (((rowsL.getD ((op).toNat) rwo0).gfields).size) cq1), (6, pv b5), (4, pv b3), (2, pv b1), (0, .string s)] w25 (by kernel_rfl) ?_
          by_cases fk13 : (byteAt ((rowsL.getD ((op).toNat) rwo0).gfields) (k).toNat) = 67
          ·skip
           refine J.head (.bool true) (congrArg Value.bool (beq_iff_eq.2 fk13)) ?_
           refine J.run 4 K14_43 [(81, .pointer (some ⟨b5, 3, none⟩)), (80, iv ((atM (ls (⟨(Lib.trimPrefix (ls ((piecesB 32 s).getD ((k + 1).toNat) ByteArray.empty)) (ls (⟨#[114]⟩ : ByteArray))).toArray⟩ : ByteArray))).getD 0)), (45, iv k), (44, iv (((rowsL.getD ((op).toNat) rwo0).gfields).size : Int)), (43, .slice (some ⟨b7, 0, none⟩) (((rowsL.getD ((op).toNat) rwo0).gfields).size) cq1), (6, pv b5), (4, pv b3), (2, pv b1), (0, .string s)] w25 (by kernel_rfl) ?_
           refine J.stBox S25 2 3 3 (iv ((atM (ls (⟨(Lib.trimPrefix (ls ((piecesB 32 s).getD ((k + 1).toNat) ByteArray.empty)) (ls (⟨#[114]⟩ : ByteArray))).toArray⟩ : ByteArray))).getD 0)) [iv op, iv a, iv b, iv ((atM (ls (⟨(Lib.trimPrefix (ls ((piecesB 32 s).getD ((k + 1).toNat) ByteArray.empty)) (ls (⟨#[114]⟩ : ByteArray))).toArray⟩ : ByteArray))).getD 0), iv q] [rows8 b7 ((rowsL.getD ((op).toNat) rwo0).gfields), box b6 (rowsL.flatMap rwoE) 74, box b5 [iv op, iv a, iv b, iv ((atM (ls (⟨(Lib.trimPrefix (ls ((piecesB 32 s).getD ((k + 1).toNat) ByteArray.empty)) (ls (⟨#[114]⟩ : ByteArray))).toArray⟩ : ByteArray))).getD 0), iv q] 44, box bd5 (rowsL.flatMap rwoE) 74, box b4 (rowsL.flatMap rwoE) 74, box b3 [.slice (some ⟨b2, 0, none⟩) ((piecesB 32 s).length) ((piecesB 32 s).length)] 79, box b2 ((piecesB 32 s).map Value.string) 9, box b1 kvW21_1 44] (by kernel_rfl) rfl (by kernel_rfl) (by kernel_rfl) rfl ?_
           intro w28 S28
           refine J.run 5 K14_44 [(82, iv (IntKind.wrap .i64 (k + 1))), (44, iv (((rowsL.getD ((op).toNat) rwo0).gfields).size : Int)), (43, .slice (some ⟨b7, 0, none⟩) (((rowsL.getD ((op).toNat) rwo0).gfields).size) cq1), (6, pv b5), (4, pv b3), (2, pv b1), (0, .string s)] w28 (by kernel_rfl) ?_
           refine J.head (iv (k + 1)) (congrArg (Value.int .i64) (IntWalk.i64_in _ (by omega))) ?_
           refine J.run 3 K14_14 [(45, iv (k + 1)), (44, iv (((rowsL.getD ((op).toNat) rwo0).gfields).size : Int)), (43, .slice (some ⟨b7, 0, none⟩) (((rowsL.getD ((op).toNat) rwo0).gfields).size) cq1), (6, pv b5), (4, pv b3), (2, pv b1), (0, .string s)] w28 (by kernel_rfl) ?_
           refine J.run 0 K14_14 [(45, iv (k + 1)), (44, iv (((rowsL.getD ((op).toNat) rwo0).gfields).size : Int)), (43, .slice (some ⟨b7, 0, none⟩) (((rowsL.getD ((op).toNat) rwo0).gfields).size) cq1), (6, pv b5), (4, pv b3), (2, pv b1), (0, .string s)] w28 (by kernel_rfl) ?_
           exact ih1 _ (show ((((rowsL.getD ((op).toNat) rwo0).gfields).size : Int) - (k + 1)).toNat < mm1 from by omega) a b ((atM (ls (⟨(Lib.trimPrefix (ls ((piecesB 32 s).getD ((k + 1).toNat) ByteArray.empty)) (ls (⟨#[114]⟩ : ByteArray))).toArray⟩ : ByteArray))).getD 0) q (k + 1) w28 (by omega) (by omega) (by omega) (by have h_ := atW_next hG h0 (by rw [← hrw.2.1]; omega) (w := ((piecesB 32 s).getD (k + 1).toNat ByteArray.empty)) rfl (by rw [← hrw.2.1]; omega) (by rw [← hrw.2.1]; exact (mat_r (by omega) rfl).trans (at_some fk10)); rw [← hrw.2.1, set_val.2.2.1 (by omega)] at h_; exact h_) S28 rfl
          ·skip
           refine J.head (.bool false) (congrArg Value.bool (beq_eq_false_iff_ne.2 fk13)) ?_
           refine J.run 4 K14_45 [(69, .pointer (some ⟨b5, 4, none⟩)), (68, iv ((atM (ls (⟨(Lib.trimPrefix (ls ((piecesB 32 s).getD ((k + 1).toNat) ByteArray.empty)) (ls (⟨#[114]⟩ : ByteArray))).toArray⟩ : ByteArray))).getD 0)), (45, iv k), (44, iv (((rowsL.getD ((op).toNat) rwo0).gfields).size : Int)), (43, .slice (some ⟨b7, 0, none⟩) (((rowsL.getD ((op).toNat) rwo0).gfields).size) cq1), (6, pv b5), (4, pv b3), (2, pv b1), (0, .string s)] w25 (by kernel_rfl) ?_
           refine J.stBox S25 2 3 4 (iv ((atM (ls (⟨(Lib.trimPrefix (ls ((piecesB 32 s).getD ((k + 1).toNat) ByteArray.empty)) (ls (⟨#[114]⟩ : ByteArray))).toArray⟩ : ByteArray))).getD 0)) [iv op, iv a, iv b, iv c, iv ((atM (ls (⟨(Lib.trimPrefix (ls ((piecesB 32 s).getD ((k + 1).toNat) ByteArray.empty)) (ls (⟨#[114]⟩ : ByteArray))).toArray⟩ : ByteArray))).getD 0)] [rows8 b7 ((rowsL.getD ((op).toNat) rwo0).gfields), box b6 (rowsL.flatMap rwoE) 74, box b5 [iv op, iv a, iv b, iv c, iv ((atM (ls (⟨(Lib.trimPrefix (ls ((piecesB 32 s).getD ((k + 1).toNat) ByteArray.empty)) (ls (⟨#[114]⟩ : ByteArray))).toArray⟩ : ByteArray))).getD 0)] 44, box bd5 (rowsL.flatMap rwoE) 74, box b4 (rowsL.flatMap rwoE) 74, box b3 [.slice (some ⟨b2, 0, none⟩) ((piecesB 32 s).length) ((piecesB 32 s).length)] 79, box b2 ((piecesB 32 s).map Value.string) 9, box b1 kvW21_1 44] (by kernel_rfl) rfl (by kernel_rfl) (by kernel_rfl) rfl ?_
           intro w29 S29
           refine J.run 5 K14_46 [(82, iv (IntKind.wrap .i64 (k + 1))), (44, iv (((rowsL.getD ((op).toNat) rwo0).gfields).size : Int)), (43, .slice (some ⟨b7, 0, none⟩) (((rowsL.getD ((op).toNat) rwo0).gfields).size) cq1), (6, pv b5), (4, pv b3), (2, pv b1), (0, .string s)] w29 (by kernel_rfl) ?_
           refine J.head (iv (k + 1)) (congrArg (Value.int .i64) (IntWalk.i64_in _ (by omega))) ?_
           refine J.run 3 K14_14 [(45, iv (k + 1)), (44, iv (((rowsL.getD ((op).toNat) rwo0).gfields).size : Int)), (43, .slice (some ⟨b7, 0, none⟩) (((rowsL.getD ((op).toNat) rwo0).gfields).size) cq1), (6, pv b5), (4, pv b3), (2, pv b1), (0, .string s)] w29 (by kernel_rfl) ?_
           refine J.run 0 K14_14 [(45, iv (k + 1)), (44, iv (((rowsL.getD ((op).toNat) rwo0).gfields).size : Int)), (43, .slice (some ⟨b7, 0, none⟩) (((rowsL.getD ((op).toNat) rwo0).gfields).size) cq1), (6, pv b5), (4, pv b3), (2, pv b1), (0, .string s)] w29 (by kernel_rfl) ?_
           exact ih1 _ (show ((((rowsL.getD ((op).toNat) rwo0).gfields).size : Int) - (k + 1)).toNat < mm1 from by omega) a b c ((atM (ls (⟨(Lib.trimPrefix (ls ((piecesB 32 s).getD ((k + 1).toNat) ByteArray.empty)) (ls (⟨#[114]⟩ : ByteArray))).toArray⟩ : ByteArray))).getD 0) (k + 1) w29 (by omega) (by omega) (by omega) (by have h_ := atW_next hG h0 (by rw [← hrw.2.1]; omega) (w := ((piecesB 32 s).getD (k + 1).toNat ByteArray.empty)) rfl (by rw [← hrw.2.1]; omega) (by rw [← hrw.2.1]; exact (mat_r (by omega) rfl).trans (at_some fk10)); rw [← hrw.2.1, set_val.2.2.2 (by omega) (by omega) (by omega)] at h_; exact h_) S29 rfl
       ·skip
        have hps_ := piece_size 32 s (k + 1).toNat
        have hts_ := trim_size ((piecesB 32 s).getD (k + 1).toNat ByteArray.empty) (⟨#[114]⟩ : ByteArray)
        refine J.callF 61 49 #[.string (⟨(Lib.trimPrefix (ls ((piecesB 32 s).getD ((k + 1).toNat) ByteArray.empty)) (ls (⟨#[114]⟩ : ByteArray))).toArray⟩ : ByteArray)] hb49 (by kernel_rfl) (atoi_none (⟨(Lib.trimPrefix (ls ((piecesB 32 s).getD ((k + 1).toNat) ByteArray.empty)) (ls (⟨#[114]⟩ : ByteArray))).toArray⟩ : ByteArray) _ (by omega) fk10 (tabW_sep hW S24)) ?_
        rintro _ w30 ⟨ex2, en2, rfl, T10⟩
        have S30 : Sep w [rows8 b7 ((rowsL.getD ((op).toNat) rwo0).gfields), box b6 (rowsL.flatMap rwoE) 74, box b5 [iv op, iv a, iv b, iv c, iv q] 44, box bd5 (rowsL.flatMap rwoE) 74, box b4 (rowsL.flatMap rwoE) 74, box b3 [.slice (some ⟨b2, 0, none⟩) ((piecesB 32 s).length) ((piecesB 32 s).length)] 79, box b2 ((piecesB 32 s).map Value.string) 9, box b1 kvW21_1 44] w30 := S24.trans T10
        clear T10 S24
        refine J.run 16 K14_47 [(66, .agg kvW21_2), (2, pv b1)] w30 (by kernel_rfl) ?_
        refine J.stBox S30 7 44 0 (.agg kvW21_2) kvW21_1 [rows8 b7 ((rowsL.getD ((op).toNat) rwo0).gfields), box b6 (rowsL.flatMap rwoE) 74, box b5 [iv op, iv a, iv b, iv c, iv q] 44, box bd5 (rowsL.flatMap rwoE) 74, box b4 (rowsL.flatMap rwoE) 74, box b3 [.slice (some ⟨b2, 0, none⟩) ((piecesB 32 s).length) ((piecesB 32 s).length)] 79, box b2 ((piecesB 32 s).map Value.string) 9, box b1 kvW21_1 44] (by kernel_rfl) rfl (by kernel_rfl) (by kernel_rfl) rfl ?_
        intro w31 S31
        refine J.run 2 K14_48 [(3, iv 3), (2, pv b1)] w31 (by kernel_rfl) ?_
        refine J.ret Tryz.f14 [.agg kvW21_2, iv 3] Tryz.func14 ⟨⟨⟨b1, 0, none⟩, by kernel_rfl, ldV_run (S31.nth 7 rfl) (by kernel_rfl)⟩, by kernel_rfl, trivial⟩ ?_
        refine hR _ _ ?_
        obtain ⟨e1, e2⟩ := mat_none (s := s) (by omega) (atW_none hG h0 (by rw [← hrw.2.1]; omega) rfl (by rw [← hrw.2.1]; omega) (by rw [← hrw.2.1]; exact (mat_r (by omega) rfl).trans (at_none fk10)))
        exact ⟨by rw [e1, e2]; rfl, S31.nil⟩
     ·skip
      refine J.head (.bool false) (congrArg Value.bool (decide_eq_false fk4)) ?_
      refine J.run 5 K14_49 [(6, pv b5), (2, pv b1), (0, .string s)] w16 (by kernel_rfl) ?_
      refine J.ok (OK.ldBox S16 2 83 44 0 (.agg #[iv op, iv a, iv b, iv c, iv q]) (by kernel_rfl) rfl (by kernel_rfl)) ?_
      refine J.callF 84 16 #[.agg #[iv op, iv a, iv b, iv c, iv q]] hb16 (by kernel_rfl) (mtext_any (⟨op, a, b, c, q⟩ : Ins) _ (show insQ _ (⟨op, a, b, c, q⟩ : Ins) from ⟨(show (-9223372036854775808) ≤ (op : Int) ∧ (op : Int) ≤ 9223372036854775807 from by omega), (show (-9223372036854775808) ≤ (a : Int) ∧ (a : Int) ≤ 9223372036854775807 from by omega), (show (-9223372036854775808) ≤ (b : Int) ∧ (b : Int) ≤ 9223372036854775807 from by omega), (show (-9223372036854775808) ≤ (c : Int) ∧ (c : Int) ≤ 9223372036854775807 from by omega), (show (-9223372036854775808) ≤ (q : Int) ∧ (q : Int) ≤ 9223372036854775807 from by omega), trivial⟩) (tabW_sep hW S16)) ?_
      rintro _ w32 ⟨rfl, T11⟩
      have S32 : Sep w [rows8 b7 ((rowsL.getD ((op).toNat) rwo0).gfields), box b6 (rowsL.flatMap rwoE) 74, box b5 [iv op, iv a, iv b, iv c, iv q] 44, box bd5 (rowsL.flatMap rwoE) 74, box b4 (rowsL.flatMap rwoE) 74, box b3 [.slice (some ⟨b2, 0, none⟩) ((piecesB 32 s).length) ((piecesB 32 s).length)] 79, box b2 ((piecesB 32 s).map Value.string) 9, box b1 kvW21_1 44] w32 := S16.trans T11
      clear T11 S16
      refine J.run 3 K14_50 [(86, .bool (!((textI (⟨op, a, b, c, q⟩ : Ins)).toList == s.toList))), (6, pv b5), (2, pv b1)] w32 (by kernel_rfl) ?_
      rcases Bool.eq_false_or_eq_true (!((textI (⟨op, a, b, c, q⟩ : Ins)).toList == s.toList)) with fk14 | fk14
      ·skip
       refine J.head (.bool true) (congrArg Value.bool fk14) ?_
       refine J.run 4 K14_51 [(87, .agg kvW21_2), (2, pv b1)] w32 (by kernel_rfl) ?_
       refine J.stBox S32 7 44 0 (.agg kvW21_2) kvW21_1 [rows8 b7 ((rowsL.getD ((op).toNat) rwo0).gfields), box b6 (rowsL.flatMap rwoE) 74, box b5 [iv op, iv a, iv b, iv c, iv q] 44, box bd5 (rowsL.flatMap rwoE) 74, box b4 (rowsL.flatMap rwoE) 74, box b3 [.slice (some ⟨b2, 0, none⟩) ((piecesB 32 s).length) ((piecesB 32 s).length)] 79, box b2 ((piecesB 32 s).map Value.string) 9, box b1 kvW21_1 44] (by kernel_rfl) rfl (by kernel_rfl) (by kernel_rfl) rfl ?_
       intro w33 S33
       refine J.run 2 K14_52 [(3, iv 3), (2, pv b1)] w33 (by kernel_rfl) ?_
       refine J.ret Tryz.f14 [.agg kvW21_2, iv 3] Tryz.func14 ⟨⟨⟨b1, 0, none⟩, by kernel_rfl, ldV_run (S33.nth 7 rfl) (by kernel_rfl)⟩, by kernel_rfl, trivial⟩ ?_
       refine hR _ _ ?_
       obtain ⟨e1, e2⟩ := mat_other (s := s) (by omega) (atW_end hG (by rw [← hrw.2.1]; omega)) (by simpa using fk14)
       exact ⟨by rw [e1, e2]; rfl, S33.nil⟩
      ·skip
       refine J.head (.bool false) (congrArg Value.bool fk14) ?_
       refine J.run 4 K14_53 [(6, pv b5), (2, pv b1)] w32 (by kernel_rfl) ?_
       refine J.ok (OK.ldBox S32 2 88 44 0 (.agg #[iv op, iv a, iv b, iv c, iv q]) (by kernel_rfl) rfl (by kernel_rfl)) ?_
       refine J.stBox S32 7 44 0 (.agg #[iv op, iv a, iv b, iv c, iv q]) [iv op, iv a, iv b, iv c, iv q] [rows8 b7 ((rowsL.getD ((op).toNat) rwo0).gfields), box b6 (rowsL.flatMap rwoE) 74, box b5 [iv op, iv a, iv b, iv c, iv q] 44, box bd5 (rowsL.flatMap rwoE) 74, box b4 (rowsL.flatMap rwoE) 74, box b3 [.slice (some ⟨b2, 0, none⟩) ((piecesB 32 s).length) ((piecesB 32 s).length)] 79, box b2 ((piecesB 32 s).map Value.string) 9, box b1 [iv op, iv a, iv b, iv c, iv q] 44] (by kernel_rfl) rfl (by kernel_rfl) (by kernel_rfl) rfl ?_
       intro w34 S34
       refine J.run 2 K14_54 [(3, iv 0), (2, pv b1)] w34 (by kernel_rfl) ?_
       refine J.ret Tryz.f14 [.agg #[iv op, iv a, iv b, iv c, iv q], iv 0] Tryz.func14 ⟨⟨⟨b1, 0, none⟩, by kernel_rfl, ldV_run (S34.nth 7 rfl) (by kernel_rfl)⟩, by kernel_rfl, trivial⟩ ?_
       refine hR _ _ ?_
       obtain ⟨e1, e2⟩ := mat_same (s := s) (by omega) (atW_end hG (by rw [← hrw.2.1]; omega)) (by simpa using fk14)
       exact ⟨by rw [e1, e2]; rfl, S34.nil⟩
    exact L14_1 _ 0 0 0 0 0 w15 (by omega) (by have hrz := rows_size (op := op) (by omega); omega) (by omega) (atW_start rfl (hop2 (by omega)) (by omega) (by rw [← (rows_at (op := op) (by omega)).2.1]; omega)) S15 rfl
   ·skip
    refine J.head (.bool true) (congrArg Value.bool (bne_iff_ne.2 fk3)) ?_
    refine J.run 4 K14_55 [(35, .agg kvW21_2), (2, pv b1)] w11 (by kernel_rfl) ?_
    refine J.stBox S11 4 44 0 (.agg kvW21_2) kvW21_1 [box bd5 (rowsL.flatMap rwoE) 74, box b4 (rowsL.flatMap rwoE) 74, box b3 [.slice (some ⟨b2, 0, none⟩) ((piecesB 32 s).length) ((piecesB 32 s).length)] 79, box b2 ((piecesB 32 s).map Value.string) 9, box b1 kvW21_1 44] (by kernel_rfl) rfl (by kernel_rfl) (by kernel_rfl) rfl ?_
    intro w35 S35
    refine J.run 2 K14_56 [(3, iv 3), (2, pv b1)] w35 (by kernel_rfl) ?_
    refine J.ret Tryz.f14 [.agg kvW21_2, iv 3] Tryz.func14 ⟨⟨⟨b1, 0, none⟩, by kernel_rfl, ldV_run (S35.nth 4 rfl) (by kernel_rfl)⟩, by kernel_rfl, trivial⟩ ?_
    refine hR _ _ ?_
    obtain ⟨e1, e2⟩ := mat_none (s := s) (by omega) (readI_not rfl (by first | exact .inl (by omega) | exact .inr (by rw [hop2 (by omega), ← (rows_at (op := op) (by omega)).2.1]; omega)))
    exact ⟨by rw [e1, e2]; rfl, S35.nil⟩

end Go.Proofs.YthfpejhonhaggaaGreatDoor

