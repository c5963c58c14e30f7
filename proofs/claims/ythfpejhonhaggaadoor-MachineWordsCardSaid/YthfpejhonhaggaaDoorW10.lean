/- Walks of functions of this seat, printed by a program over the engine. Conditions: as each theorem says. -/
import Derived.Test.YthfpejhonhaggaaDoorW9
namespace Go.Proofs.YthfpejhonhaggaaDoor
open Go.Eng Go.RowKit
set_option linter.unusedSimpArgs false
set_option linter.unusedVariables false
theorem hb14 : HasBody Tryd.prog 14 := fun _ _ => by kernel_rfl
noncomputable def K14_0 : List Item := adv 2 [] (bodyOf Tryd.f14)
noncomputable def K14_1 : List Item := adv 9 [] (popK K14_0)
noncomputable def K14_2 : List Item := adv 4 [true] K14_1
noncomputable def K14_3 : List Item := adv 2 [] (popK K14_2)
noncomputable def K14_4 : List Item := adv 5 [false] K14_1
noncomputable def K14_5 : List Item := adv 4 [] (popK K14_4)
noncomputable def K14_6 : List Item := adv 3 [] (popK K14_5)
noncomputable def K14_7 : List Item := adv 9 [] (popK K14_6)
noncomputable def K14_8 : List Item := adv 6 [] K14_7
noncomputable def K14_9 : List Item := adv 5 [true] K14_8
noncomputable def K14_10 : List Item := adv 4 [true] (rRest K14_9)
noncomputable def K14_11 : List Item := adv 5 [] (popK K14_10)
noncomputable def K14_12 : List Item := adv 6 [false] (rRest K14_9)
noncomputable def K14_13 : List Item := adv 6 [false] K14_8
noncomputable def K14_14 : List Item := adv 2 [] (popK K14_13)
noncomputable def K14_15 : List Item := adv 14 [true] K14_14
noncomputable def K14_16 : List Item := adv 2 [] (popK K14_15)
noncomputable def K14_17 : List Item := adv 3 [] K14_14
noncomputable def K14_18 : List Item := adv 2 [] (popK (popK K14_17))
noncomputable def K14_19 : List Item := adv 3 [] K14_18
noncomputable def K14_20 : List Item := adv 5 [false] K14_19
noncomputable def K14_21 : List Item := adv 9 [] (popK (popK K14_20))
noncomputable def K14_22 : List Item := adv 8 [] K14_21
noncomputable def K14_23 : List Item := adv 9 [true] K14_22
noncomputable def K14_24 : List Item := adv 7 [] (popK (popK K14_23))
noncomputable def K14_25 : List Item := adv 2 [] (popK K14_24)
noncomputable def K14_26 : List Item := adv 5 [false] K14_25
noncomputable def K14_27 : List Item := adv 12 [] (popK K14_26)
noncomputable def K14_28 : List Item := adv 6 [false] K14_27
noncomputable def K14_29 : List Item := adv 7 [] (popK K14_28)
noncomputable def K14_30 : List Item := adv 4 [true] K14_29
noncomputable def K14_31 : List Item := adv 6 [] (popK K14_30)
noncomputable def K14_32 : List Item := adv 6 [false] K14_29
noncomputable def K14_33 : List Item := adv 4 [true] K14_32
noncomputable def K14_34 : List Item := adv 6 [] (popK K14_33)
noncomputable def K14_35 : List Item := adv 6 [false] K14_32
noncomputable def K14_36 : List Item := adv 4 [true] K14_35
noncomputable def K14_37 : List Item := adv 6 [] (popK K14_36)
noncomputable def K14_38 : List Item := adv 6 [false] K14_35
noncomputable def K14_39 : List Item := adv 4 [true] K14_38
noncomputable def K14_40 : List Item := adv 6 [] (popK K14_39)
noncomputable def K14_41 : List Item := adv 4 [true] K14_27
noncomputable def K14_42 : List Item := adv 2 [] (popK K14_41)
noncomputable def K14_43 : List Item := adv 8 [true] K14_25
noncomputable def K14_44 : List Item := adv 9 [true] K14_43
noncomputable def K14_45 : List Item := adv 2 [] (popK K14_44)
noncomputable def K14_46 : List Item := adv 1 [] K14_43
noncomputable def K14_47 : List Item := adv 3 [] (popK K14_46)
noncomputable def K14_48 : List Item := adv 4 [false] K14_47
noncomputable def K14_49 : List Item := adv 5 [] (popK K14_48)
noncomputable def K14_50 : List Item := adv 12 [] (popK K14_49)
noncomputable def K14_51 : List Item := adv 6 [false] K14_50
noncomputable def K14_52 : List Item := adv 7 [] (popK K14_51)
noncomputable def K14_53 : List Item := adv 4 [true] K14_52
noncomputable def K14_54 : List Item := adv 6 [] (popK K14_53)
noncomputable def K14_55 : List Item := adv 6 [false] K14_52
noncomputable def K14_56 : List Item := adv 4 [true] K14_55
noncomputable def K14_57 : List Item := adv 6 [] (popK K14_56)
noncomputable def K14_58 : List Item := adv 6 [false] K14_55
noncomputable def K14_59 : List Item := adv 4 [true] K14_58
noncomputable def K14_60 : List Item := adv 6 [] (popK K14_59)
noncomputable def K14_61 : List Item := adv 4 [true] K14_50
noncomputable def K14_62 : List Item := adv 2 [] (popK K14_61)
noncomputable def K14_63 : List Item := adv 4 [true] K14_47
noncomputable def K14_64 : List Item := adv 2 [] (popK K14_63)
noncomputable def K14_65 : List Item := adv 5 [false] K14_22
noncomputable def K14_66 : List Item := adv 2 [] (popK (popK K14_65))
noncomputable def K14_67 : List Item := adv 4 [false] K14_66
noncomputable def K14_68 : List Item := adv 2 [] (popK (popK K14_67))
noncomputable def K14_69 : List Item := adv 4 [true] K14_66
noncomputable def K14_70 : List Item := adv 2 [] (popK K14_69)
noncomputable def K14_71 : List Item := adv 4 [true] K14_19
noncomputable def K14_72 : List Item := adv 2 [] (popK K14_71)
set_option maxRecDepth 20000 in
set_option maxHeartbeats 20000000 in
theorem rparsei_any (s : ByteArray) (w : World) (hs : s.size ≤ 1000000) : Ret Tryd.prog 14 #[.string s] w (fun v w' => v = .tuple #[.agg #[.int .i64 (parI s).gOp, .int .i64 (parI s).gA, .int .i64 (parI s).gB, .int .i64 (parI s).gC, .int .i64 (parI s).gK], .int .i64 (parIE s)] ∧ Sep w [] w') := by
 have S0 := Sep.refl w
 refine Ret.named fun R hR => ?_
 refine Ret.of_J (N := 109) [(0, .string s)] Tryd.func14 rfl rfl (Nat.le_of_ble_eq_true (by kernel_rfl)) (by kernel_rfl) ?_
 have hnl_ := name_len
 have hpl_ := pieces_len 32 s
 have hpp_ := List.length_pos_iff.2 (splitOn_ne 32 (ls s))
 refine J.run 2 K14_0 [(0, .string s)] w (by kernel_rfl) ?_
 refine J.new S0 2 [.int .i64 0, .int .i64 0, .int .i64 0, .int .i64 0, .int .i64 0] 23 (by kernel_rfl) ?_
 intro b1 w1 S1
 refine J.run 9 K14_1 [(15, .bool (decide ((s.size : Int) > 100))), (2, .pointer (some ⟨b1, 0, none⟩)), (0, .string s)] w1 (by kernel_rfl) ?_
 by_cases fk1 : (s.size : Int) > 100
 ·skip
  refine J.head (.bool true) (congrArg Value.bool (decide_eq_true fk1)) ?_
  refine J.run 4 K14_2 [(16, .agg #[.int .i64 0, .int .i64 0, .int .i64 0, .int .i64 0, .int .i64 0]), (2, .pointer (some ⟨b1, 0, none⟩))] w1 (by kernel_rfl) ?_
  refine J.stBox S1 0 23 0 (.agg #[.int .i64 0, .int .i64 0, .int .i64 0, .int .i64 0, .int .i64 0]) [.int .i64 0, .int .i64 0, .int .i64 0, .int .i64 0, .int .i64 0] [box b1 [.int .i64 0, .int .i64 0, .int .i64 0, .int .i64 0, .int .i64 0] 23] (by kernel_rfl) rfl (by kernel_rfl) (by kernel_rfl) rfl ?_
  intro w2 S2
  refine J.run 2 K14_3 [(3, .int .i64 5), (2, .pointer (some ⟨b1, 0, none⟩))] w2 (by kernel_rfl) ?_
  refine J.ret Tryd.f14 [.agg #[.int .i64 0, .int .i64 0, .int .i64 0, .int .i64 0, .int .i64 0], .int .i64 5] Tryd.func14 ⟨⟨⟨b1, 0, none⟩, by kernel_rfl, ldV_run (S2.nth 0 rfl) (by kernel_rfl)⟩, by kernel_rfl, trivial⟩ ?_
  refine hR _ _ ?_
  obtain ⟨e1, e2⟩ := par_long (s := s) (by omega)
  exact ⟨by rw [e1, e2]; rfl, S2.nil⟩
 ·skip
  refine J.head (.bool false) (congrArg Value.bool (decide_eq_false fk1)) ?_
  refine J.run 5 K14_4 [(17, .string s), (2, .pointer (some ⟨b1, 0, none⟩))] w1 (by kernel_rfl) ?_
  refine J.callF 18 29 #[.string s] hb29 (by kernel_rfl) (rwords_any s _ (by omega)) ?_
  rintro _ w3 ⟨ra1, rc1, rfl, T1⟩
  have S3 : Sep w [rowOf (enc1 Value.string) ra1 rc1 9 1 (piecesB 32 s), box b1 [.int .i64 0, .int .i64 0, .int .i64 0, .int .i64 0, .int .i64 0] 23] w3 := S1.trans T1
  clear T1 S1
  have := pieces_len 32 s; have := List.length_pos_iff.2 (splitOn_ne 32 (ls s))
  refine J.run 4 K14_5 [(4, .slice ra1 ((piecesB 32 s).length) rc1), (2, .pointer (some ⟨b1, 0, none⟩))] w3 (by kernel_rfl) ?_
  refine J.new S3 5 [.int .i64 0, .int .i64 0, .int .i64 0, .int .i64 0, .int .i64 0] 23 (by kernel_rfl) ?_
  intro b2 w4 S4
  refine J.run 3 K14_6 [(5, .pointer (some ⟨b2, 0, none⟩)), (4, .slice ra1 ((piecesB 32 s).length) rc1), (2, .pointer (some ⟨b1, 0, none⟩))] w4 (by kernel_rfl) ?_
  refine J.callF 19 27 #[] hb27 (by kernel_rfl) (names_any _) ?_
  rintro _ w5 ⟨b3, rfl, T2⟩
  have S5 : Sep w [box b3 (nameL.map Value.string) 9, box b2 [.int .i64 0, .int .i64 0, .int .i64 0, .int .i64 0, .int .i64 0] 23, rowOf (enc1 Value.string) ra1 rc1 9 1 (piecesB 32 s), box b1 [.int .i64 0, .int .i64 0, .int .i64 0, .int .i64 0, .int .i64 0] 23] w5 := S4.trans T2
  clear T2 S4
  refine J.run 9 K14_7 [(7, .int .i64 1), (6, .slice (some ⟨b3, 0, none⟩) 23 23), (5, .pointer (some ⟨b2, 0, none⟩)), (4, .slice ra1 ((piecesB 32 s).length) rc1), (2, .pointer (some ⟨b1, 0, none⟩))] w5 (by kernel_rfl) ?_
  have L14_1 : ∀ (mm_ : Nat) (o : Int) (j : Int) (w6 : World), (1 ≤ j ∧ j ≤ 23) → (0 ≤ o ∧ o ≤ 22) → (o = opN (ls ((piecesB 32 s).getD 0 ByteArray.empty)) (j).toNat) → Sep w [box b3 (nameL.map Value.string) 9, box b2 [.int .i64 o, .int .i64 0, .int .i64 0, .int .i64 0, .int .i64 0] 23, rowOf (enc1 Value.string) ra1 rc1 9 1 (piecesB 32 s), box b1 [.int .i64 0, .int .i64 0, .int .i64 0, .int .i64 0, .int .i64 0] 23] w6 → (23 - j).toNat = mm_ → J Tryd.prog 14 109 R K14_7 [(7, .int .i64 j), (6, .slice (some ⟨b3, 0, none⟩) 23 23), (5, .pointer (some ⟨b2, 0, none⟩)), (4, .slice ra1 ((piecesB 32 s).length) rc1), (2, .pointer (some ⟨b1, 0, none⟩))] w6 := by
   intro mm1
   induction mm1 using Nat.strongRecOn with
   | _ mm1 ih1 =>
   intro o j w6 j0 ho hO S6 hm1
   refine J.run 6 K14_8 [(21, .bool (decide (j ≤ 22))), (7, .int .i64 j), (6, .slice (some ⟨b3, 0, none⟩) 23 23), (5, .pointer (some ⟨b2, 0, none⟩)), (4, .slice ra1 ((piecesB 32 s).length) rc1), (2, .pointer (some ⟨b1, 0, none⟩))] w6 (by kernel_rfl) ?_
   by_cases fk2 : j ≤ 22
   ·skip
    refine J.head (.bool true) (congrArg Value.bool (decide_eq_true fk2)) ?_
    refine J.run 5 K14_9 [(7, .int .i64 j), (6, .slice (some ⟨b3, 0, none⟩) 23 23), (5, .pointer (some ⟨b2, 0, none⟩)), (4, .slice ra1 ((piecesB 32 s).length) rc1), (2, .pointer (some ⟨b1, 0, none⟩))] w6 (by kernel_rfl) ?_
    obtain ⟨p1, hp1, hc1⟩ := (box_ones (S6.nth 0 rfl) 23 rfl).at ByteArray.empty (j).toNat (by omega)
    obtain ⟨p2, hp2⟩ := row1_addr (S6.nth 2 rfl) (show 0 < (piecesB 32 s).length by first | omega | (simp; omega))
    refine J.drawStill S6 8 Tryd.mixed (by kernel_rfl) (by kernel_rfl) (by kernel_rfl) ?_
    intro w7 S7
    refine SL.ok (by decide) (OK.run 24 (.slice (some ⟨b3, 0, none⟩) 23 23) (by kernel_rfl)) ?_
    refine SL.ok (by decide) (OK.run 25 (.int .i64 j) (by kernel_rfl)) ?_
    refine SL.ok (by decide) (OK.index 26 52 1 (some ⟨b3, 0, none⟩) ⟨b3, 0, none⟩ 23 (j).toNat j ⟨b3, (j).toNat, none⟩ (by kernel_rfl) (by kernel_rfl) rfl (by omega) (by first | omega | (simp; omega)) (by rw [Nat.mul_one, add_block, Nat.zero_add])) ?_
    refine SL.ok (by decide) (OK.ldArr Value.string S7 0 27 9 ((j).toNat) ByteArray.empty (by kernel_rfl) (by kernel_rfl) rfl (by first | omega | (simp; omega))) ?_
    refine SL.ok (by decide) (OK.run 28 (.slice ra1 ((piecesB 32 s).length) rc1) (by kernel_rfl)) ?_
    refine SL.ok (by decide) (OK.index 29 52 1 ra1 p2 ((piecesB 32 s).length) 0 0 (p2.add 0) (by kernel_rfl) (by kernel_rfl) hp2 (by omega) (by first | omega | (simp; omega)) (by rw [Nat.mul_one])) ?_
    refine SL.ok (by decide) (OK.ldCell 30 9 (p2.add 0) (.string ((piecesB 32 s).getD 0 ByteArray.empty)) (by kernel_rfl) (by kernel_rfl) (row1_cell (g := Value.string) S7 2 rfl hp2 ByteArray.empty 0 (by first | omega | (simp; omega)))) ?_
    refine SL.ok (by decide) (OK.run 31 (.bool ((nameL.getD ((j).toNat) ByteArray.empty).toList == ((piecesB 32 s).getD 0 ByteArray.empty).toList)) (by kernel_rfl)) ?_
    refine SL.done ?_
    refine TL.done (by kernel_rfl) ?_
    refine J.run 0 (rRest K14_9) [(31, .bool ((nameL.getD ((j).toNat) ByteArray.empty).toList == ((piecesB 32 s).getD 0 ByteArray.empty).toList)), (7, .int .i64 j), (6, .slice (some ⟨b3, 0, none⟩) 23 23), (5, .pointer (some ⟨b2, 0, none⟩)), (4, .slice ra1 ((piecesB 32 s).length) rc1), (2, .pointer (some ⟨b1, 0, none⟩))] w7 (by kernel_rfl) ?_
    rcases Bool.eq_false_or_eq_true ((nameL.getD ((j).toNat) ByteArray.empty).toList == ((piecesB 32 s).getD 0 ByteArray.empty).toList) with fk3 | fk3
    ·skip
     refine J.head (.bool true) (congrArg Value.bool fk3) ?_
     refine J.run 4 K14_10 [(33, .pointer (some ⟨b2, 0, none⟩)), (32, .int .i64 j), (7, .int .i64 j), (6, .slice (some ⟨b3, 0, none⟩) 23 23), (5, .pointer (some ⟨b2, 0, none⟩)), (4, .slice ra1 ((piecesB 32 s).length) rc1), (2, .pointer (some ⟨b1, 0, none⟩))] w7 (by kernel_rfl) ?_
     refine J.stBox S7 1 3 0 (.int .i64 j) [.int .i64 j, .int .i64 0, .int .i64 0, .int .i64 0, .int .i64 0] [box b3 (nameL.map Value.string) 9, box b2 [.int .i64 j, .int .i64 0, .int .i64 0, .int .i64 0, .int .i64 0] 23, rowOf (enc1 Value.string) ra1 rc1 9 1 (piecesB 32 s), box b1 [.int .i64 0, .int .i64 0, .int .i64 0, .int .i64 0, .int .i64 0] 23] (by kernel_rfl) rfl (by kernel_rfl) (by kernel_rfl) rfl ?_
     intro w8 S8
     refine J.run 5 K14_11 [(23, .int .i64 (IntKind.wrap .i64 (j + 1))), (6, .slice (some ⟨b3, 0, none⟩) 23 23), (5, .pointer (some ⟨b2, 0, none⟩)), (4, .slice ra1 ((piecesB 32 s).length) rc1), (2, .pointer (some ⟨b1, 0, none⟩))] w8 (by kernel_rfl) ?_
     refine J.head (.int .i64 (j + 1)) (congrArg (Value.int .i64) (IntWalk.i64_in _ (by omega))) ?_
     refine J.run 3 K14_7 [(7, .int .i64 (j + 1)), (6, .slice (some ⟨b3, 0, none⟩) 23 23), (5, .pointer (some ⟨b2, 0, none⟩)), (4, .slice ra1 ((piecesB 32 s).length) rc1), (2, .pointer (some ⟨b1, 0, none⟩))] w8 (by kernel_rfl) ?_
     refine J.run 0 K14_7 [(7, .int .i64 (j + 1)), (6, .slice (some ⟨b3, 0, none⟩) 23 23), (5, .pointer (some ⟨b2, 0, none⟩)), (4, .slice ra1 ((piecesB 32 s).length) rc1), (2, .pointer (some ⟨b1, 0, none⟩))] w8 (by kernel_rfl) ?_
     exact ih1 _ (show (23 - (j + 1)).toNat < mm1 from by omega) j (j + 1) w8 (by omega) (by omega) (by rw [opN_step _ (by omega), if_pos (by have h_ := fk3; rw [beq_ls, beq_iff_eq] at h_; exact h_)]) S8 rfl
    ·skip
     refine J.head (.bool false) (congrArg Value.bool fk3) ?_
     refine J.run 6 K14_12 [(23, .int .i64 (IntKind.wrap .i64 (j + 1))), (6, .slice (some ⟨b3, 0, none⟩) 23 23), (5, .pointer (some ⟨b2, 0, none⟩)), (4, .slice ra1 ((piecesB 32 s).length) rc1), (2, .pointer (some ⟨b1, 0, none⟩))] w7 (by kernel_rfl) ?_
     refine J.head (.int .i64 (j + 1)) (congrArg (Value.int .i64) (IntWalk.i64_in _ (by omega))) ?_
     refine J.run 3 K14_7 [(7, .int .i64 (j + 1)), (6, .slice (some ⟨b3, 0, none⟩) 23 23), (5, .pointer (some ⟨b2, 0, none⟩)), (4, .slice ra1 ((piecesB 32 s).length) rc1), (2, .pointer (some ⟨b1, 0, none⟩))] w7 (by kernel_rfl) ?_
     refine J.run 0 K14_7 [(7, .int .i64 (j + 1)), (6, .slice (some ⟨b3, 0, none⟩) 23 23), (5, .pointer (some ⟨b2, 0, none⟩)), (4, .slice ra1 ((piecesB 32 s).length) rc1), (2, .pointer (some ⟨b1, 0, none⟩))] w7 (by kernel_rfl) ?_
     exact ih1 _ (show (23 - (j + 1)).toNat < mm1 from by omega) o (j + 1) w7 (by omega) (by omega) (by rw [opN_step _ (by omega), if_neg (by have h_ := fk3; rw [beq_ls, beq_eq_false_iff_ne] at h_; exact h_)]; exact hO) S7 rfl
   ·skip
    refine J.head (.bool false) (congrArg Value.bool (decide_eq_false fk2)) ?_
    have hO2 : o = opW (ls ((piecesB 32 s).getD 0 ByteArray.empty)) := by rw [hO, show j.toNat = 23 by omega]
    refine J.run 6 K14_13 [(34, .pointer (some ⟨b2, 0, none⟩)), (5, .pointer (some ⟨b2, 0, none⟩)), (4, .slice ra1 ((piecesB 32 s).length) rc1), (2, .pointer (some ⟨b1, 0, none⟩))] w6 (by kernel_rfl) ?_
    refine J.ok (OK.ldBox S6 1 35 3 0 (.int .i64 o) (by kernel_rfl) rfl (by kernel_rfl)) ?_
    refine J.run 2 K14_14 [(37, .bool (o == 0)), (5, .pointer (some ⟨b2, 0, none⟩)), (4, .slice ra1 ((piecesB 32 s).length) rc1), (2, .pointer (some ⟨b1, 0, none⟩))] w6 (by kernel_rfl) ?_
    by_cases fk4 : o = 0
    ·skip
     refine J.head (.bool true) (congrArg Value.bool (beq_iff_eq.2 fk4)) ?_
     refine J.run 14 K14_15 [(47, .agg #[.int .i64 0, .int .i64 0, .int .i64 0, .int .i64 0, .int .i64 0]), (2, .pointer (some ⟨b1, 0, none⟩))] w6 (by kernel_rfl) ?_
     refine J.stBox S6 3 23 0 (.agg #[.int .i64 0, .int .i64 0, .int .i64 0, .int .i64 0, .int .i64 0]) [.int .i64 0, .int .i64 0, .int .i64 0, .int .i64 0, .int .i64 0] [box b3 (nameL.map Value.string) 9, box b2 [.int .i64 o, .int .i64 0, .int .i64 0, .int .i64 0, .int .i64 0] 23, rowOf (enc1 Value.string) ra1 rc1 9 1 (piecesB 32 s), box b1 [.int .i64 0, .int .i64 0, .int .i64 0, .int .i64 0, .int .i64 0] 23] (by kernel_rfl) rfl (by kernel_rfl) (by kernel_rfl) rfl ?_
     intro w9 S9
     refine J.run 2 K14_16 [(3, .int .i64 3), (2, .pointer (some ⟨b1, 0, none⟩))] w9 (by kernel_rfl) ?_
     refine J.ret Tryd.f14 [.agg #[.int .i64 0, .int .i64 0, .int .i64 0, .int .i64 0, .int .i64 0], .int .i64 3] Tryd.func14 ⟨⟨⟨b1, 0, none⟩, by kernel_rfl, ldV_run (S9.nth 3 rfl) (by kernel_rfl)⟩, by kernel_rfl, trivial⟩ ?_
     refine hR _ _ ?_
     obtain ⟨e1, e2⟩ := ref_none (s := s) (by omega) (readI_not rfl (by first | exact .inl (by omega) | exact .inr (by rw [← hO2]; omega)))
     exact ⟨by rw [e1, e2]; rfl, S9.nil⟩
    ·skip
     refine J.head (.bool false) (congrArg Value.bool (beq_eq_false_iff_ne.2 fk4)) ?_
     refine J.run 3 K14_17 [(40, .pointer (some ⟨b2, 0, none⟩)), (39, .int .i64 ((piecesB 32 s).length : Int)), (37, .bool false), (5, .pointer (some ⟨b2, 0, none⟩)), (4, .slice ra1 ((piecesB 32 s).length) rc1), (2, .pointer (some ⟨b1, 0, none⟩))] w6 (by kernel_rfl) ?_
     refine J.ok (OK.ldBox S6 1 41 3 0 (.int .i64 o) (by kernel_rfl) rfl (by kernel_rfl)) ?_
     refine J.callF 42 19 #[.int .i64 o] hb19 (by kernel_rfl) (rfields_any o _ (by omega)) ?_
     rintro _ w10 ⟨rfl, T3⟩
     have S10 : Sep w [box b3 (nameL.map Value.string) 9, box b2 [.int .i64 o, .int .i64 0, .int .i64 0, .int .i64 0, .int .i64 0] 23, rowOf (enc1 Value.string) ra1 rc1 9 1 (piecesB 32 s), box b1 [.int .i64 0, .int .i64 0, .int .i64 0, .int .i64 0, .int .i64 0] 23] w10 := S6.trans T3
     clear T3 S6
     have := fields_size (op := o)
     refine J.run 2 K14_18 [(44, .int .i64 (IntKind.wrap .i64 (1 + ((fieldsF o).size : Int)))), (39, .int .i64 ((piecesB 32 s).length : Int)), (37, .bool false), (5, .pointer (some ⟨b2, 0, none⟩)), (4, .slice ra1 ((piecesB 32 s).length) rc1), (2, .pointer (some ⟨b1, 0, none⟩))] w10 (by kernel_rfl) ?_
     refine J.head (.int .i64 (1 + ((fieldsF o).size : Int))) (congrArg (Value.int .i64) (IntWalk.i64_in _ (by omega))) ?_
     refine J.run 3 K14_19 [(46, .bool (((piecesB 32 s).length : Int) != (1 + ((fieldsF o).size : Int)))), (5, .pointer (some ⟨b2, 0, none⟩)), (4, .slice ra1 ((piecesB 32 s).length) rc1), (2, .pointer (some ⟨b1, 0, none⟩))] w10 (by kernel_rfl) ?_
     by_cases fk5 : ((piecesB 32 s).length : Int) = (1 + ((fieldsF o).size : Int))
     ·skip
      refine J.head (.bool false) (congrArg Value.bool (bne_eq_false_iff_eq.2 fk5)) ?_
      refine J.run 5 K14_20 [(48, .pointer (some ⟨b2, 0, none⟩)), (5, .pointer (some ⟨b2, 0, none⟩)), (4, .slice ra1 ((piecesB 32 s).length) rc1), (2, .pointer (some ⟨b1, 0, none⟩))] w10 (by kernel_rfl) ?_
      refine J.ok (OK.ldBox S10 1 49 3 0 (.int .i64 o) (by kernel_rfl) rfl (by kernel_rfl)) ?_
      refine J.callF 50 19 #[.int .i64 o] hb19 (by kernel_rfl) (rfields_any o _ (by omega)) ?_
      rintro _ w11 ⟨rfl, T4⟩
      have S11 : Sep w [box b3 (nameL.map Value.string) 9, box b2 [.int .i64 o, .int .i64 0, .int .i64 0, .int .i64 0, .int .i64 0] 23, rowOf (enc1 Value.string) ra1 rc1 9 1 (piecesB 32 s), box b1 [.int .i64 0, .int .i64 0, .int .i64 0, .int .i64 0, .int .i64 0] 23] w11 := S10.trans T4
      clear T4 S10
      have := fields_size (op := o)
      refine J.run 9 K14_21 [(9, .int .i64 0), (8, .string (fieldsF o)), (5, .pointer (some ⟨b2, 0, none⟩)), (4, .slice ra1 ((piecesB 32 s).length) rc1), (2, .pointer (some ⟨b1, 0, none⟩))] w11 (by kernel_rfl) ?_
      have L14_2 : ∀ (mm_ : Nat) (a : Int) (b : Int) (c : Int) (q : Int) (k : Int) (w12 : World), (0 ≤ k) → (k ≤ ((fieldsF o).size : Int)) → ((-9223372036854775808 ≤ a ∧ a ≤ 9223372036854775807) ∧ (-9223372036854775808 ≤ b ∧ b ≤ 9223372036854775807) ∧ (-9223372036854775808 ≤ c ∧ c ≤ 9223372036854775807) ∧ (-9223372036854775808 ≤ q ∧ q ≤ 9223372036854775807)) → (atW refW s o k (⟨o, a, b, c, q⟩ : Ins)) → Sep w [box b3 (nameL.map Value.string) 9, box b2 [.int .i64 o, .int .i64 a, .int .i64 b, .int .i64 c, .int .i64 q] 23, rowOf (enc1 Value.string) ra1 rc1 9 1 (piecesB 32 s), box b1 [.int .i64 0, .int .i64 0, .int .i64 0, .int .i64 0, .int .i64 0] 23] w12 → (((fieldsF o).size : Int) - k).toNat = mm_ → J Tryd.prog 14 109 R K14_21 [(9, .int .i64 k), (8, .string (fieldsF o)), (5, .pointer (some ⟨b2, 0, none⟩)), (4, .slice ra1 ((piecesB 32 s).length) rc1), (2, .pointer (some ⟨b1, 0, none⟩))] w12 := by
       intro mm2
       induction mm2 using Nat.strongRecOn with
       | _ mm2 ih2 =>
       intro a b c q k w12 h0 h1 hb hG S12 hm2
       refine J.run 8 K14_22 [(54, .bool (decide (k < ((fieldsF o).size : Int)))), (9, .int .i64 k), (8, .string (fieldsF o)), (5, .pointer (some ⟨b2, 0, none⟩)), (4, .slice ra1 ((piecesB 32 s).length) rc1), (2, .pointer (some ⟨b1, 0, none⟩))] w12 (by kernel_rfl) ?_
       by_cases fk6 : k < ((fieldsF o).size : Int)
       ·skip
        refine J.head (.bool true) (congrArg Value.bool (decide_eq_true fk6)) ?_
        refine J.run 9 K14_23 [(59, .int .i64 (IntKind.wrap .i64 (k + 1))), (57, .slice ra1 ((piecesB 32 s).length) rc1), (9, .int .i64 k), (8, .string (fieldsF o)), (5, .pointer (some ⟨b2, 0, none⟩)), (4, .slice ra1 ((piecesB 32 s).length) rc1), (2, .pointer (some ⟨b1, 0, none⟩))] w12 (by kernel_rfl) ?_
        refine J.head (.int .i64 (k + 1)) (congrArg (Value.int .i64) (IntWalk.i64_in _ (by omega))) ?_
        obtain ⟨p3, hp3⟩ := row1_addr (S12.nth 2 rfl) (show 0 < (piecesB 32 s).length by first | omega | (simp; omega))
        refine J.ok (OK.index 60 52 1 ra1 p3 ((piecesB 32 s).length) (k + 1).toNat (k + 1) (p3.add (k + 1).toNat) (by kernel_rfl) (by kernel_rfl) hp3 (by omega) (by first | omega | (simp; omega)) (by rw [Nat.mul_one])) ?_
        refine J.ok (OK.ldCell 61 9 (p3.add (k + 1).toNat) (.string ((piecesB 32 s).getD (k + 1).toNat ByteArray.empty)) (by kernel_rfl) (by kernel_rfl) (row1_cell (g := Value.string) S12 2 rfl hp3 ByteArray.empty (k + 1).toNat (by first | omega | (simp; omega)))) ?_
        refine J.run 7 K14_24 [(63, .int .i64 k), (62, .string (fieldsF o)), (10, .string ((piecesB 32 s).getD (k + 1).toNat ByteArray.empty)), (9, .int .i64 k), (8, .string (fieldsF o)), (5, .pointer (some ⟨b2, 0, none⟩)), (4, .slice ra1 ((piecesB 32 s).length) rc1), (2, .pointer (some ⟨b1, 0, none⟩))] w12 (by kernel_rfl) ?_
        have := byteAt_bounds (fieldsF o) (k).toNat
        refine J.ok (OK.byte 64 9 (fieldsF o) k (byteAt (fieldsF o) (k).toNat) (by kernel_rfl) (by kernel_rfl) (by omega) (by omega) (rfl)) ?_
        refine J.run 2 K14_25 [(65, .bool ((byteAt (fieldsF o) (k).toNat) != 75)), (10, .string ((piecesB 32 s).getD (k + 1).toNat ByteArray.empty)), (9, .int .i64 k), (8, .string (fieldsF o)), (5, .pointer (some ⟨b2, 0, none⟩)), (4, .slice ra1 ((piecesB 32 s).length) rc1), (2, .pointer (some ⟨b1, 0, none⟩))] w12 (by kernel_rfl) ?_
        by_cases fk7 : (byteAt (fieldsF o) (k).toNat) = 75
        ·skip
         refine J.head (.bool false) (congrArg Value.bool (bne_eq_false_iff_eq.2 fk7)) ?_
         refine J.run 5 K14_26 [(78, .string ((piecesB 32 s).getD (k + 1).toNat ByteArray.empty)), (9, .int .i64 k), (8, .string (fieldsF o)), (5, .pointer (some ⟨b2, 0, none⟩)), (4, .slice ra1 ((piecesB 32 s).length) rc1), (2, .pointer (some ⟨b1, 0, none⟩))] w12 (by kernel_rfl) ?_
         have hps_ := piece_size 32 s (k + 1).toNat
         refine J.callF 79 30 #[.string ((piecesB 32 s).getD (k + 1).toNat ByteArray.empty)] hb30 (by kernel_rfl) (rparse_any ((piecesB 32 s).getD (k + 1).toNat ByteArray.empty) _ (by omega)) ?_
         rintro _ w13 ⟨rfl, T5⟩
         have S13 : Sep w [box b3 (nameL.map Value.string) 9, box b2 [.int .i64 o, .int .i64 a, .int .i64 b, .int .i64 c, .int .i64 q] 23, rowOf (enc1 Value.string) ra1 rc1 9 1 (piecesB 32 s), box b1 [.int .i64 0, .int .i64 0, .int .i64 0, .int .i64 0, .int .i64 0] 23] w13 := S12.trans T5
         clear T5 S12
         have := par_bounds ((piecesB 32 s).getD (k + 1).toNat ByteArray.empty)
         refine J.run 12 K14_27 [(83, .bool ((parE ((piecesB 32 s).getD (k + 1).toNat ByteArray.empty)) != 0)), (11, .int .i64 (parX ((piecesB 32 s).getD (k + 1).toNat ByteArray.empty))), (9, .int .i64 k), (8, .string (fieldsF o)), (5, .pointer (some ⟨b2, 0, none⟩)), (4, .slice ra1 ((piecesB 32 s).length) rc1), (2, .pointer (some ⟨b1, 0, none⟩))] w13 (by kernel_rfl) ?_
         by_cases fk8 : (parE ((piecesB 32 s).getD (k + 1).toNat ByteArray.empty)) = 0
         ·skip
          refine J.head (.bool false) (congrArg Value.bool (bne_eq_false_iff_eq.2 fk8)) ?_
          refine J.run 6 K14_28 [(86, .int .i64 k), (85, .string (fieldsF o)), (11, .int .i64 (parX ((piecesB 32 s).getD (k + 1).toNat ByteArray.empty))), (9, .int .i64 k), (8, .string (fieldsF o)), (5, .pointer (some ⟨b2, 0, none⟩)), (4, .slice ra1 ((piecesB 32 s).length) rc1), (2, .pointer (some ⟨b1, 0, none⟩))] w13 (by kernel_rfl) ?_
          have := byteAt_bounds (fieldsF o) (k).toNat
          refine J.ok (OK.byte 87 9 (fieldsF o) k (byteAt (fieldsF o) (k).toNat) (by kernel_rfl) (by kernel_rfl) (by omega) (by omega) (rfl)) ?_
          refine J.run 7 K14_29 [(88, .bool ((byteAt (fieldsF o) (k).toNat) == 65)), (87, .int .u8 (byteAt (fieldsF o) (k).toNat)), (11, .int .i64 (parX ((piecesB 32 s).getD (k + 1).toNat ByteArray.empty))), (9, .int .i64 k), (8, .string (fieldsF o)), (5, .pointer (some ⟨b2, 0, none⟩)), (4, .slice ra1 ((piecesB 32 s).length) rc1), (2, .pointer (some ⟨b1, 0, none⟩))] w13 (by kernel_rfl) ?_
          by_cases fk9 : (byteAt (fieldsF o) (k).toNat) = 65
          ·skip
           refine J.head (.bool true) (congrArg Value.bool (beq_iff_eq.2 fk9)) ?_
           refine J.run 4 K14_30 [(91, .pointer (some ⟨b2, 1, none⟩)), (90, .int .i64 (parX ((piecesB 32 s).getD (k + 1).toNat ByteArray.empty))), (9, .int .i64 k), (8, .string (fieldsF o)), (5, .pointer (some ⟨b2, 0, none⟩)), (4, .slice ra1 ((piecesB 32 s).length) rc1), (2, .pointer (some ⟨b1, 0, none⟩))] w13 (by kernel_rfl) ?_
           refine J.stBox S13 1 3 1 (.int .i64 (parX ((piecesB 32 s).getD (k + 1).toNat ByteArray.empty))) [.int .i64 o, .int .i64 (parX ((piecesB 32 s).getD (k + 1).toNat ByteArray.empty)), .int .i64 b, .int .i64 c, .int .i64 q] [box b3 (nameL.map Value.string) 9, box b2 [.int .i64 o, .int .i64 (parX ((piecesB 32 s).getD (k + 1).toNat ByteArray.empty)), .int .i64 b, .int .i64 c, .int .i64 q] 23, rowOf (enc1 Value.string) ra1 rc1 9 1 (piecesB 32 s), box b1 [.int .i64 0, .int .i64 0, .int .i64 0, .int .i64 0, .int .i64 0] 23] (by kernel_rfl) rfl (by kernel_rfl) (by kernel_rfl) rfl ?_
           intro w14 S14
           refine J.run 6 K14_31 [(56, .int .i64 (IntKind.wrap .i64 (k + 1))), (8, .string (fieldsF o)), (5, .pointer (some ⟨b2, 0, none⟩)), (4, .slice ra1 ((piecesB 32 s).length) rc1), (2, .pointer (some ⟨b1, 0, none⟩))] w14 (by kernel_rfl) ?_
           refine J.head (.int .i64 (k + 1)) (congrArg (Value.int .i64) (IntWalk.i64_in _ (by omega))) ?_
           refine J.run 3 K14_21 [(9, .int .i64 (k + 1)), (8, .string (fieldsF o)), (5, .pointer (some ⟨b2, 0, none⟩)), (4, .slice ra1 ((piecesB 32 s).length) rc1), (2, .pointer (some ⟨b1, 0, none⟩))] w14 (by kernel_rfl) ?_
           refine J.run 0 K14_21 [(9, .int .i64 (k + 1)), (8, .string (fieldsF o)), (5, .pointer (some ⟨b2, 0, none⟩)), (4, .slice ra1 ((piecesB 32 s).length) rc1), (2, .pointer (some ⟨b1, 0, none⟩))] w14 (by kernel_rfl) ?_
           exact ih2 _ (show (((fieldsF o).size : Int) - (k + 1)).toNat < mm2 from by omega) (parX ((piecesB 32 s).getD (k + 1).toNat ByteArray.empty)) b c q (k + 1) w14 (by omega) (by omega) (by omega) (by have h_ := atW_next hG h0 (by omega) (w := ((piecesB 32 s).getD (k + 1).toNat ByteArray.empty)) rfl (by omega) ((ref_k (by omega)).trans (if_pos (by omega))); rw [set_val.1 (by omega)] at h_; exact h_) S14 rfl
          ·skip
           refine J.head (.bool false) (congrArg Value.bool (beq_eq_false_iff_ne.2 fk9)) ?_
           refine J.run 6 K14_32 [(92, .bool ((byteAt (fieldsF o) (k).toNat) == 66)), (87, .int .u8 (byteAt (fieldsF o) (k).toNat)), (11, .int .i64 (parX ((piecesB 32 s).getD (k + 1).toNat ByteArray.empty))), (9, .int .i64 k), (8, .string (fieldsF o)), (5, .pointer (some ⟨b2, 0, none⟩)), (4, .slice ra1 ((piecesB 32 s).length) rc1), (2, .pointer (some ⟨b1, 0, none⟩))] w13 (by kernel_rfl) ?_
           by_cases fk10 : (byteAt (fieldsF o) (k).toNat) = 66
           ·skip
            refine J.head (.bool true) (congrArg Value.bool (beq_iff_eq.2 fk10)) ?_
            refine J.run 4 K14_33 [(95, .pointer (some ⟨b2, 2, none⟩)), (94, .int .i64 (parX ((piecesB 32 s).getD (k + 1).toNat ByteArray.empty))), (9, .int .i64 k), (8, .string (fieldsF o)), (5, .pointer (some ⟨b2, 0, none⟩)), (4, .slice ra1 ((piecesB 32 s).length) rc1), (2, .pointer (some ⟨b1, 0, none⟩))] w13 (by kernel_rfl) ?_
            refine J.stBox S13 1 3 2 (.int .i64 (parX ((piecesB 32 s).getD (k + 1).toNat ByteArray.empty))) [.int .i64 o, .int .i64 a, .int .i64 (parX ((piecesB 32 s).getD (k + 1).toNat ByteArray.empty)), .int .i64 c, .int .i64 q] [box b3 (nameL.map Value.string) 9, box b2 [.int .i64 o, .int .i64 a, .int .i64 (parX ((piecesB 32 s).getD (k + 1).toNat ByteArray.empty)), .int .i64 c, .int .i64 q] 23, rowOf (enc1 Value.string) ra1 rc1 9 1 (piecesB 32 s), box b1 [.int .i64 0, .int .i64 0, .int .i64 0, .int .i64 0, .int .i64 0] 23] (by kernel_rfl) rfl (by kernel_rfl) (by kernel_rfl) rfl ?_
            intro w15 S15
            refine J.run 6 K14_34 [(56, .int .i64 (IntKind.wrap .i64 (k + 1))), (8, .string (fieldsF o)), (5, .pointer (some ⟨b2, 0, none⟩)), (4, .slice ra1 ((piecesB 32 s).length) rc1), (2, .pointer (some ⟨b1, 0, none⟩))] w15 (by kernel_rfl) ?_
            refine J.head (.int .i64 (k + 1)) (congrArg (Value.int .i64) (IntWalk.i64_in _ (by omega))) ?_
            refine J.run 3 K14_21 [(9, .int .i64 (k + 1)), (8, .string (fieldsF o)), (5, .pointer (some ⟨b2, 0, none⟩)), (4, .slice ra1 ((piecesB 32 s).length) rc1), (2, .pointer (some ⟨b1, 0, none⟩))] w15 (by kernel_rfl) ?_
            refine J.run 0 K14_21 [(9, .int .i64 (k + 1)), (8, .string (fieldsF o)), (5, .pointer (some ⟨b2, 0, none⟩)), (4, .slice ra1 ((piecesB 32 s).length) rc1), (2, .pointer (some ⟨b1, 0, none⟩))] w15 (by kernel_rfl) ?_
            exact ih2 _ (show (((fieldsF o).size : Int) - (k + 1)).toNat < mm2 from by omega) a (parX ((piecesB 32 s).getD (k + 1).toNat ByteArray.empty)) c q (k + 1) w15 (by omega) (by omega) (by omega) (by have h_ := atW_next hG h0 (by omega) (w := ((piecesB 32 s).getD (k + 1).toNat ByteArray.empty)) rfl (by omega) ((ref_k (by omega)).trans (if_pos (by omega))); rw [set_val.2.1 (by omega)] at h_; exact h_) S15 rfl
           ·skip
            refine J.head (.bool false) (congrArg Value.bool (beq_eq_false_iff_ne.2 fk10)) ?_
            refine J.run 6 K14_35 [(96, .bool ((byteAt (fieldsF o) (k).toNat) == 67)), (87, .int .u8 (byteAt (fieldsF o) (k).toNat)), (11, .int .i64 (parX ((piecesB 32 s).getD (k + 1).toNat ByteArray.empty))), (9, .int .i64 k), (8, .string (fieldsF o)), (5, .pointer (some ⟨b2, 0, none⟩)), (4, .slice ra1 ((piecesB 32 s).length) rc1), (2, .pointer (some ⟨b1, 0, none⟩))] w13 (by kernel_rfl) ?_
            by_cases fk11 : (byteAt (fieldsF o) (k).toNat) = 67
            ·skip
             refine J.head (.bool true) (congrArg Value.bool (beq_iff_eq.2 fk11)) ?_
             refine J.run 4 K14_36 [(99, .pointer (some ⟨b2, 3, none⟩)), (98, .int .i64 (parX ((piecesB 32 s).getD (k + 1).toNat ByteArray.empty))), (9, .int .i64 k), (8, .string (fieldsF o)), (5, .pointer (some ⟨b2, 0, none⟩)), (4, .slice ra1 ((piecesB 32 s).length) rc1), (2, .pointer (some ⟨b1, 0, none⟩))] w13 (by kernel_rfl) ?_
             refine J.stBox S13 1 3 3 (.int .i64 (parX ((piecesB 32 s).getD (k + 1).toNat ByteArray.empty))) [.int .i64 o, .int .i64 a, .int .i64 b, .int .i64 (parX ((piecesB 32 s).getD (k + 1).toNat ByteArray.empty)), .int .i64 q] [box b3 (nameL.map Value.string) 9, box b2 [.int .i64 o, .int .i64 a, .int .i64 b, .int .i64 (parX ((piecesB 32 s).getD (k + 1).toNat ByteArray.empty)), .int .i64 q] 23, rowOf (enc1 Value.string) ra1 rc1 9 1 (piecesB 32 s), box b1 [.int .i64 0, .int .i64 0, .int .i64 0, .int .i64 0, .int .i64 0] 23] (by kernel_rfl) rfl (by kernel_rfl) (by kernel_rfl) rfl ?_
             intro w16 S16
             refine J.run 6 K14_37 [(56, .int .i64 (IntKind.wrap .i64 (k + 1))), (8, .string (fieldsF o)), (5, .pointer (some ⟨b2, 0, none⟩)), (4, .slice ra1 ((piecesB 32 s).length) rc1), (2, .pointer (some ⟨b1, 0, none⟩))] w16 (by kernel_rfl) ?_
             refine J.head (.int .i64 (k + 1)) (congrArg (Value.int .i64) (IntWalk.i64_in _ (by omega))) ?_
             refine J.run 3 K14_21 [(9, .int .i64 (k + 1)), (8, .string (fieldsF o)), (5, .pointer (some ⟨b2, 0, none⟩)), (4, .slice ra1 ((piecesB 32 s).length) rc1), (2, .pointer (some ⟨b1, 0, none⟩))] w16 (by kernel_rfl) ?_
             refine J.run 0 K14_21 [(9, .int .i64 (k + 1)), (8, .string (fieldsF o)), (5, .pointer (some ⟨b2, 0, none⟩)), (4, .slice ra1 ((piecesB 32 s).length) rc1), (2, .pointer (some ⟨b1, 0, none⟩))] w16 (by kernel_rfl) ?_
             exact ih2 _ (show (((fieldsF o).size : Int) - (k + 1)).toNat < mm2 from by omega) a b (parX ((piecesB 32 s).getD (k + 1).toNat ByteArray.empty)) q (k + 1) w16 (by omega) (by omega) (by omega) (by have h_ := atW_next hG h0 (by omega) (w := ((piecesB 32 s).getD (k + 1).toNat ByteArray.empty)) rfl (by omega) ((ref_k (by omega)).trans (if_pos (by omega))); rw [set_val.2.2.1 (by omega)] at h_; exact h_) S16 rfl
            ·skip
             refine J.head (.bool false) (congrArg Value.bool (beq_eq_false_iff_ne.2 fk11)) ?_
             refine J.run 6 K14_38 [(100, .bool ((byteAt (fieldsF o) (k).toNat) == 75)), (11, .int .i64 (parX ((piecesB 32 s).getD (k + 1).toNat ByteArray.empty))), (9, .int .i64 k), (8, .string (fieldsF o)), (5, .pointer (some ⟨b2, 0, none⟩)), (4, .slice ra1 ((piecesB 32 s).length) rc1), (2, .pointer (some ⟨b1, 0, none⟩))] w13 (by kernel_rfl) ?_
             refine J.head (.bool true) (congrArg Value.bool (beq_iff_eq.2 fk7)) ?_
             refine J.run 4 K14_39 [(103, .pointer (some ⟨b2, 4, none⟩)), (102, .int .i64 (parX ((piecesB 32 s).getD (k + 1).toNat ByteArray.empty))), (9, .int .i64 k), (8, .string (fieldsF o)), (5, .pointer (some ⟨b2, 0, none⟩)), (4, .slice ra1 ((piecesB 32 s).length) rc1), (2, .pointer (some ⟨b1, 0, none⟩))] w13 (by kernel_rfl) ?_
             refine J.stBox S13 1 3 4 (.int .i64 (parX ((piecesB 32 s).getD (k + 1).toNat ByteArray.empty))) [.int .i64 o, .int .i64 a, .int .i64 b, .int .i64 c, .int .i64 (parX ((piecesB 32 s).getD (k + 1).toNat ByteArray.empty))] [box b3 (nameL.map Value.string) 9, box b2 [.int .i64 o, .int .i64 a, .int .i64 b, .int .i64 c, .int .i64 (parX ((piecesB 32 s).getD (k + 1).toNat ByteArray.empty))] 23, rowOf (enc1 Value.string) ra1 rc1 9 1 (piecesB 32 s), box b1 [.int .i64 0, .int .i64 0, .int .i64 0, .int .i64 0, .int .i64 0] 23] (by kernel_rfl) rfl (by kernel_rfl) (by kernel_rfl) rfl ?_
             intro w17 S17
             refine J.run 6 K14_40 [(56, .int .i64 (IntKind.wrap .i64 (k + 1))), (8, .string (fieldsF o)), (5, .pointer (some ⟨b2, 0, none⟩)), (4, .slice ra1 ((piecesB 32 s).length) rc1), (2, .pointer (some ⟨b1, 0, none⟩))] w17 (by kernel_rfl) ?_
             refine J.head (.int .i64 (k + 1)) (congrArg (Value.int .i64) (IntWalk.i64_in _ (by omega))) ?_
             refine J.run 3 K14_21 [(9, .int .i64 (k + 1)), (8, .string (fieldsF o)), (5, .pointer (some ⟨b2, 0, none⟩)), (4, .slice ra1 ((piecesB 32 s).length) rc1), (2, .pointer (some ⟨b1, 0, none⟩))] w17 (by kernel_rfl) ?_
             refine J.run 0 K14_21 [(9, .int .i64 (k + 1)), (8, .string (fieldsF o)), (5, .pointer (some ⟨b2, 0, none⟩)), (4, .slice ra1 ((piecesB 32 s).length) rc1), (2, .pointer (some ⟨b1, 0, none⟩))] w17 (by kernel_rfl) ?_
             exact ih2 _ (show (((fieldsF o).size : Int) - (k + 1)).toNat < mm2 from by omega) a b c (parX ((piecesB 32 s).getD (k + 1).toNat ByteArray.empty)) (k + 1) w17 (by omega) (by omega) (by omega) (by have h_ := atW_next hG h0 (by omega) (w := ((piecesB 32 s).getD (k + 1).toNat ByteArray.empty)) rfl (by omega) ((ref_k (by omega)).trans (if_pos (by omega))); rw [set_val.2.2.2 (by omega) (by omega) (by omega)] at h_; exact h_) S17 rfl
         ·skip
          refine J.head (.bool true) (congrArg Value.bool (bne_iff_ne.2 fk8)) ?_
          refine J.run 4 K14_41 [(84, .agg #[.int .i64 0, .int .i64 0, .int .i64 0, .int .i64 0, .int .i64 0]), (2, .pointer (some ⟨b1, 0, none⟩))] w13 (by kernel_rfl) ?_
          refine J.stBox S13 3 23 0 (.agg #[.int .i64 0, .int .i64 0, .int .i64 0, .int .i64 0, .int .i64 0]) [.int .i64 0, .int .i64 0, .int .i64 0, .int .i64 0, .int .i64 0] [box b3 (nameL.map Value.string) 9, box b2 [.int .i64 o, .int .i64 a, .int .i64 b, .int .i64 c, .int .i64 q] 23, rowOf (enc1 Value.string) ra1 rc1 9 1 (piecesB 32 s), box b1 [.int .i64 0, .int .i64 0, .int .i64 0, .int .i64 0, .int .i64 0] 23] (by kernel_rfl) rfl (by kernel_rfl) (by kernel_rfl) rfl ?_
          intro w18 S18
          refine J.run 2 K14_42 [(3, .int .i64 3), (2, .pointer (some ⟨b1, 0, none⟩))] w18 (by kernel_rfl) ?_
          refine J.ret Tryd.f14 [.agg #[.int .i64 0, .int .i64 0, .int .i64 0, .int .i64 0, .int .i64 0], .int .i64 3] Tryd.func14 ⟨⟨⟨b1, 0, none⟩, by kernel_rfl, ldV_run (S18.nth 3 rfl) (by kernel_rfl)⟩, by kernel_rfl, trivial⟩ ?_
          refine hR _ _ ?_
          obtain ⟨e1, e2⟩ := ref_none (s := s) (by omega) (atW_none hG h0 (by omega) rfl (by omega) ((ref_k (by omega)).trans (if_neg (by omega))))
          exact ⟨by rw [e1, e2]; rfl, S18.nil⟩
        ·skip
         refine J.head (.bool true) (congrArg Value.bool (bne_iff_ne.2 fk7)) ?_
         refine J.run 8 K14_43 [(69, .bool (decide ((((piecesB 32 s).getD (k + 1).toNat ByteArray.empty).size : Int) < 2))), (10, .string ((piecesB 32 s).getD (k + 1).toNat ByteArray.empty)), (9, .int .i64 k), (8, .string (fieldsF o)), (5, .pointer (some ⟨b2, 0, none⟩)), (4, .slice ra1 ((piecesB 32 s).length) rc1), (2, .pointer (some ⟨b1, 0, none⟩))] w12 (by kernel_rfl) ?_
         by_cases fk13 : (((piecesB 32 s).getD (k + 1).toNat ByteArray.empty).size : Int) < 2
         ·skip
          refine J.head (.bool true) (congrArg Value.bool (decide_eq_true fk13)) ?_
          refine J.run 9 K14_44 [(74, .agg #[.int .i64 0, .int .i64 0, .int .i64 0, .int .i64 0, .int .i64 0]), (2, .pointer (some ⟨b1, 0, none⟩))] w12 (by kernel_rfl) ?_
          refine J.stBox S12 3 23 0 (.agg #[.int .i64 0, .int .i64 0, .int .i64 0, .int .i64 0, .int .i64 0]) [.int .i64 0, .int .i64 0, .int .i64 0, .int .i64 0, .int .i64 0] [box b3 (nameL.map Value.string) 9, box b2 [.int .i64 o, .int .i64 a, .int .i64 b, .int .i64 c, .int .i64 q] 23, rowOf (enc1 Value.string) ra1 rc1 9 1 (piecesB 32 s), box b1 [.int .i64 0, .int .i64 0, .int .i64 0, .int .i64 0, .int .i64 0] 23] (by kernel_rfl) rfl (by kernel_rfl) (by kernel_rfl) rfl ?_
          intro w19 S19
          refine J.run 2 K14_45 [(3, .int .i64 3), (2, .pointer (some ⟨b1, 0, none⟩))] w19 (by kernel_rfl) ?_
          refine J.ret Tryd.f14 [.agg #[.int .i64 0, .int .i64 0, .int .i64 0, .int .i64 0, .int .i64 0], .int .i64 3] Tryd.func14 ⟨⟨⟨b1, 0, none⟩, by kernel_rfl, ldV_run (S19.nth 3 rfl) (by kernel_rfl)⟩, by kernel_rfl, trivial⟩ ?_
          refine hR _ _ ?_
          obtain ⟨e1, e2⟩ := ref_none (s := s) (by omega) (atW_none hG h0 (by omega) rfl (by omega) (ref_short (by omega) (by omega)))
          exact ⟨by rw [e1, e2]; rfl, S19.nil⟩
         ·skip
          refine J.head (.bool false) (congrArg Value.bool (decide_eq_false fk13)) ?_
          refine J.run 1 K14_46 [(70, .string ((piecesB 32 s).getD (k + 1).toNat ByteArray.empty)), (69, .bool false), (10, .string ((piecesB 32 s).getD (k + 1).toNat ByteArray.empty)), (9, .int .i64 k), (8, .string (fieldsF o)), (5, .pointer (some ⟨b2, 0, none⟩)), (4, .slice ra1 ((piecesB 32 s).length) rc1), (2, .pointer (some ⟨b1, 0, none⟩))] w12 (by kernel_rfl) ?_
          have := byteAt_bounds ((piecesB 32 s).getD (k + 1).toNat ByteArray.empty) 0
          refine J.ok (OK.byte 71 9 ((piecesB 32 s).getD (k + 1).toNat ByteArray.empty) (0 : Int) (byteAt ((piecesB 32 s).getD (k + 1).toNat ByteArray.empty) 0) (by kernel_rfl) (by kernel_rfl) (by omega) (by omega) (rfl)) ?_
          refine J.run 3 K14_47 [(73, .bool ((byteAt ((piecesB 32 s).getD (k + 1).toNat ByteArray.empty) 0) != 114)), (10, .string ((piecesB 32 s).getD (k + 1).toNat ByteArray.empty)), (9, .int .i64 k), (8, .string (fieldsF o)), (5, .pointer (some ⟨b2, 0, none⟩)), (4, .slice ra1 ((piecesB 32 s).length) rc1), (2, .pointer (some ⟨b1, 0, none⟩))] w12 (by kernel_rfl) ?_
          by_cases fk14 : (byteAt ((piecesB 32 s).getD (k + 1).toNat ByteArray.empty) 0) = 114
          ·skip
           refine J.head (.bool false) (congrArg Value.bool (bne_eq_false_iff_eq.2 fk14)) ?_
           refine J.run 4 K14_48 [(75, .string ((piecesB 32 s).getD (k + 1).toNat ByteArray.empty)), (9, .int .i64 k), (8, .string (fieldsF o)), (5, .pointer (some ⟨b2, 0, none⟩)), (4, .slice ra1 ((piecesB 32 s).length) rc1), (2, .pointer (some ⟨b1, 0, none⟩))] w12 (by kernel_rfl) ?_
           refine J.ok (OK.sliceT 76 9 ((piecesB 32 s).getD (k + 1).toNat ByteArray.empty) (some (.int .i64 1)) none 1 (((piecesB 32 s).getD (k + 1).toNat ByteArray.empty).size) (by kernel_rfl) (by kernel_rfl) (.inr ⟨_, _, rfl, rfl⟩) (.inl ⟨rfl, rfl⟩) (by first | omega | (simp; omega)) (by first | omega | (simp; omega))) ?_
           have := size_extract ((piecesB 32 s).getD (k + 1).toNat ByteArray.empty) (i := 1) (j := ((piecesB 32 s).getD (k + 1).toNat ByteArray.empty).size) (by first | omega | (simp; omega))
           refine J.run 5 K14_49 [(78, .string (((piecesB 32 s).getD (k + 1).toNat ByteArray.empty).extract 1 (((piecesB 32 s).getD (k + 1).toNat ByteArray.empty).size))), (9, .int .i64 k), (8, .string (fieldsF o)), (5, .pointer (some ⟨b2, 0, none⟩)), (4, .slice ra1 ((piecesB 32 s).length) rc1), (2, .pointer (some ⟨b1, 0, none⟩))] w12 (by kernel_rfl) ?_
           have hps_ := piece_size 32 s (k + 1).toNat
           refine J.callF 79 30 #[.string (((piecesB 32 s).getD (k + 1).toNat ByteArray.empty).extract 1 (((piecesB 32 s).getD (k + 1).toNat ByteArray.empty).size))] hb30 (by kernel_rfl) (rparse_any (((piecesB 32 s).getD (k + 1).toNat ByteArray.empty).extract 1 (((piecesB 32 s).getD (k + 1).toNat ByteArray.empty).size)) _ (by omega)) ?_
           rintro _ w20 ⟨rfl, T6⟩
           have S20 : Sep w [box b3 (nameL.map Value.string) 9, box b2 [.int .i64 o, .int .i64 a, .int .i64 b, .int .i64 c, .int .i64 q] 23, rowOf (enc1 Value.string) ra1 rc1 9 1 (piecesB 32 s), box b1 [.int .i64 0, .int .i64 0, .int .i64 0, .int .i64 0, .int .i64 0] 23] w20 := S12.trans T6
           clear T6 S12
           have := par_bounds (((piecesB 32 s).getD (k + 1).toNat ByteArray.empty).extract 1 (((piecesB 32 s).getD (k + 1).toNat ByteArray.empty).size))
           refine J.run 12 K14_50 [(83, .bool ((parE (((piecesB 32 s).getD (k + 1).toNat ByteArray.empty).extract 1 (((piecesB 32 s).getD (k + 1).toNat ByteArray.empty).size))) != 0)), (11, .int .i64 (parX (((piecesB 32 s).getD (k + 1).toNat ByteArray.empty).extract 1 (((piecesB 32 s).getD (k + 1).toNat ByteArray.empty).size)))), (9, .int .i64 k), (8, .string (fieldsF o)), (5, .pointer (some ⟨b2, 0, none⟩)), (4, .slice ra1 ((piecesB 32 s).length) rc1), (2, .pointer (some ⟨b1, 0, none⟩))] w20 (by kernel_rfl) ?_
           by_cases fk15 : (parE (((piecesB 32 s).getD (k + 1).toNat ByteArray.empty).extract 1 (((piecesB 32 s).getD (k + 1).toNat ByteArray.empty).size))) = 0
           ·skip
            refine J.head (.bool false) (congrArg Value.bool (bne_eq_false_iff_eq.2 fk15)) ?_
            refine J.run 6 K14_51 [(86, .int .i64 k), (85, .string (fieldsF o)), (11, .int .i64 (parX (((piecesB 32 s).getD (k + 1).toNat ByteArray.empty).extract 1 (((piecesB 32 s).getD (k + 1).toNat ByteArray.empty).size)))), (9, .int .i64 k), (8, .string (fieldsF o)), (5, .pointer (some ⟨b2, 0, none⟩)), (4, .slice ra1 ((piecesB 32 s).length) rc1), (2, .pointer (some ⟨b1, 0, none⟩))] w20 (by kernel_rfl) ?_
            have := byteAt_bounds (fieldsF o) (k).toNat
            refine J.ok (OK.byte 87 9 (fieldsF o) k (byteAt (fieldsF o) (k).toNat) (by kernel_rfl) (by kernel_rfl) (by omega) (by omega) (rfl)) ?_
            refine J.run 7 K14_52 [(88, .bool ((byteAt (fieldsF o) (k).toNat) == 65)), (87, .int .u8 (byteAt (fieldsF o) (k).toNat)), (11, .int .i64 (parX (((piecesB 32 s).getD (k + 1).toNat ByteArray.empty).extract 1 (((piecesB 32 s).getD (k + 1).toNat ByteArray.empty).size)))), (9, .int .i64 k), (8, .string (fieldsF o)), (5, .pointer (some ⟨b2, 0, none⟩)), (4, .slice ra1 ((piecesB 32 s).length) rc1), (2, .pointer (some ⟨b1, 0, none⟩))] w20 (by kernel_rfl) ?_
            by_cases fk16 : (byteAt (fieldsF o) (k).toNat) = 65
            ·skip
             refine J.head (.bool true) (congrArg Value.bool (beq_iff_eq.2 fk16)) ?_
             refine J.run 4 K14_53 [(91, .pointer (some ⟨b2, 1, none⟩)), (90, .int .i64 (parX (((piecesB 32 s).getD (k + 1).toNat ByteArray.empty).extract 1 (((piecesB 32 s).getD (k + 1).toNat ByteArray.empty).size)))), (9, .int .i64 k), (8, .string (fieldsF o)), (5, .pointer (some ⟨b2, 0, none⟩)), (4, .slice ra1 ((piecesB 32 s).length) rc1), (2, .pointer (some ⟨b1, 0, none⟩))] w20 (by kernel_rfl) ?_
             refine J.stBox S20 1 3 1 (.int .i64 (parX (((piecesB 32 s).getD (k + 1).toNat ByteArray.empty).extract 1 (((piecesB 32 s).getD (k + 1).toNat ByteArray.empty).size)))) [.int .i64 o, .int .i64 (parX (((piecesB 32 s).getD (k + 1).toNat ByteArray.empty).extract 1 (((piecesB 32 s).getD (k + 1).toNat ByteArray.empty).size))), .int .i64 b, .int .i64 c, .int .i64 q] [box b3 (nameL.map Value.string) 9, box b2 [.int .i64 o, .int .i64 (parX (((piecesB 32 s).getD (k + 1).toNat ByteArray.empty).extract 1 (((piecesB 32 s).getD (k + 1).toNat ByteArray.empty).size))), .int .i64 b, .int .i64 c, .int .i64 q] 23, rowOf (enc1 Value.string) ra1 rc1 9 1 (piecesB 32 s), box b1 [.int .i64 0, .int .i64 0, .int .i64 0, .int .i64 0, .int .i64 0] 23] (by kernel_rfl) rfl (by kernel_rfl) (by kernel_rfl) rfl ?_
             intro w21 S21
             refine J.run 6 K14_54 [(56, .int .i64 (IntKind.wrap .i64 (k + 1))), (8, .string (fieldsF o)), (5, .pointer (some ⟨b2, 0, none⟩)), (4, .slice ra1 ((piecesB 32 s).length) rc1), (2, .pointer (some ⟨b1, 0, none⟩))] w21 (by kernel_rfl) ?_
             refine J.head (.int .i64 (k + 1)) (congrArg (Value.int .i64) (IntWalk.i64_in _ (by omega))) ?_
             refine J.run 3 K14_21 [(9, .int .i64 (k + 1)), (8, .string (fieldsF o)), (5, .pointer (some ⟨b2, 0, none⟩)), (4, .slice ra1 ((piecesB 32 s).length) rc1), (2, .pointer (some ⟨b1, 0, none⟩))] w21 (by kernel_rfl) ?_
             refine J.run 0 K14_21 [(9, .int .i64 (k + 1)), (8, .string (fieldsF o)), (5, .pointer (some ⟨b2, 0, none⟩)), (4, .slice ra1 ((piecesB 32 s).length) rc1), (2, .pointer (some ⟨b1, 0, none⟩))] w21 (by kernel_rfl) ?_
             exact ih2 _ (show (((fieldsF o).size : Int) - (k + 1)).toNat < mm2 from by omega) (parX (((piecesB 32 s).getD (k + 1).toNat ByteArray.empty).extract 1 (((piecesB 32 s).getD (k + 1).toNat ByteArray.empty).size))) b c q (k + 1) w21 (by omega) (by omega) (by omega) (by have h_ := atW_next hG h0 (by omega) (w := ((piecesB 32 s).getD (k + 1).toNat ByteArray.empty)) rfl (by omega) ((ref_r (by omega) (by omega) rfl).trans (if_pos (by omega))); rw [set_val.1 (by omega)] at h_; exact h_) S21 rfl
            ·skip
             refine J.head (.bool false) (congrArg Value.bool (beq_eq_false_iff_ne.2 fk16)) ?_
             refine J.run 6 K14_55 [(92, .bool ((byteAt (fieldsF o) (k).toNat) == 66)), (87, .int .u8 (byteAt (fieldsF o) (k).toNat)), (11, .int .i64 (parX (((piecesB 32 s).getD (k + 1).toNat ByteArray.empty).extract 1 (((piecesB 32 s).getD (k + 1).toNat ByteArray.empty).size)))), (9, .int .i64 k), (8, .string (fieldsF o)), (5, .pointer (some ⟨b2, 0, none⟩)), (4, .slice ra1 ((piecesB 32 s).length) rc1), (2, .pointer (some ⟨b1, 0, none⟩))] w20 (by kernel_rfl) ?_
             by_cases fk17 : (byteAt (fieldsF o) (k).toNat) = 66
             ·skip
              refine J.head (.bool true) (congrArg Value.bool (beq_iff_eq.2 fk17)) ?_
              refine J.run 4 K14_56 [(95, .pointer (some ⟨b2, 2, none⟩)), (94, .int .i64 (parX (((piecesB 32 s).getD (k + 1).toNat ByteArray.empty).extract 1 (((piecesB 32 s).getD (k + 1).toNat ByteArray.empty).size)))), (9, .int .i64 k), (8, .string (fieldsF o)), (5, .pointer (some ⟨b2, 0, none⟩)), (4, .slice ra1 ((piecesB 32 s).length) rc1), (2, .pointer (some ⟨b1, 0, none⟩))] w20 (by kernel_rfl) ?_
              refine J.stBox S20 1 3 2 (.int .i64 (parX (((piecesB 32 s).getD (k + 1).toNat ByteArray.empty).extract 1 (((piecesB 32 s).getD (k + 1).toNat ByteArray.empty).size)))) [.int .i64 o, .int .i64 a, .int .i64 (parX (((piecesB 32 s).getD (k + 1).toNat ByteArray.empty).extract 1 (((piecesB 32 s).getD (k + 1).toNat ByteArray.empty).size))), .int .i64 c, .int .i64 q] [box b3 (nameL.map Value.string) 9, box b2 [.int .i64 o, .int .i64 a, .int .i64 (parX (((piecesB 32 s).getD (k + 1).toNat ByteArray.empty).extract 1 (((piecesB 32 s).getD (k + 1).toNat ByteArray.empty).size))), .int .i64 c, .int .i64 q] 23, rowOf (enc1 Value.string) ra1 rc1 9 1 (piecesB 32 s), box b1 [.int .i64 0, .int .i64 0, .int .i64 0, .int .i64 0, .int .i64 0] 23] (by kernel_rfl) rfl (by kernel_rfl) (by kernel_rfl) rfl ?_
              intro w22 S22
              refine J.run 6 K14_57 [(56, .int .i64 (IntKind.wrap .i64 (k + 1))), (8, .string (fieldsF o)), (5, .pointer (some ⟨b2, 0, none⟩)), (4, .slice ra1 ((piecesB 32 s).length) rc1), (2, .pointer (some ⟨b1, 0, none⟩))] w22 (by kernel_rfl) ?_
              refine J.head (.int .i64 (k + 1)) (congrArg (Value.int .i64) (IntWalk.i64_in _ (by omega))) ?_
              refine J.run 3 K14_21 [(9, .int .i64 (k + 1)), (8, .string (fieldsF o)), (5, .pointer (some ⟨b2, 0, none⟩)), (4, .slice ra1 ((piecesB 32 s).length) rc1), (2, .pointer (some ⟨b1, 0, none⟩))] w22 (by kernel_rfl) ?_
              refine J.run 0 K14_21 [(9, .int .i64 (k + 1)), (8, .string (fieldsF o)), (5, .pointer (some ⟨b2, 0, none⟩)), (4, .slice ra1 ((piecesB 32 s).length) rc1), (2, .pointer (some ⟨b1, 0, none⟩))] w22 (by kernel_rfl) ?_
              exact ih2 _ (show (((fieldsF o).size : Int) - (k + 1)).toNat < mm2 from by omega) a (parX (((piecesB 32 s).getD (k + 1).toNat ByteArray.empty).extract 1 (((piecesB 32 s).getD (k + 1).toNat ByteArray.empty).size))) c q (k + 1) w22 (by omega) (by omega) (by omega) (by have h_ := atW_next hG h0 (by omega) (w := ((piecesB 32 s).getD (k + 1).toNat ByteArray.empty)) rfl (by omega) ((ref_r (by omega) (by omega) rfl).trans (if_pos (by omega))); rw [set_val.2.1 (by omega)] at h_; exact h_) S22 rfl
             ·skip
              refine J.head (.bool false) (congrArg Value.bool (beq_eq_false_iff_ne.2 fk17)) ?_
              refine J.run 6 K14_58 [(96, .bool ((byteAt (fieldsF o) (k).toNat) == 67)), (87, .int .u8 (byteAt (fieldsF o) (k).toNat)), (11, .int .i64 (parX (((piecesB 32 s).getD (k + 1).toNat ByteArray.empty).extract 1 (((piecesB 32 s).getD (k + 1).toNat ByteArray.empty).size)))), (9, .int .i64 k), (8, .string (fieldsF o)), (5, .pointer (some ⟨b2, 0, none⟩)), (4, .slice ra1 ((piecesB 32 s).length) rc1), (2, .pointer (some ⟨b1, 0, none⟩))] w20 (by kernel_rfl) ?_
              have fk19 : (byteAt (fieldsF o) (k).toNat) = 67 := by have h_ := fields_byte (op := o) (k := k.toNat) (by omega); omega
              refine J.head (.bool true) (congrArg Value.bool (beq_iff_eq.2 fk19)) ?_
              refine J.run 4 K14_59 [(99, .pointer (some ⟨b2, 3, none⟩)), (98, .int .i64 (parX (((piecesB 32 s).getD (k + 1).toNat ByteArray.empty).extract 1 (((piecesB 32 s).getD (k + 1).toNat ByteArray.empty).size)))), (9, .int .i64 k), (8, .string (fieldsF o)), (5, .pointer (some ⟨b2, 0, none⟩)), (4, .slice ra1 ((piecesB 32 s).length) rc1), (2, .pointer (some ⟨b1, 0, none⟩))] w20 (by kernel_rfl) ?_
              refine J.stBox S20 1 3 3 (.int .i64 (parX (((piecesB 32 s).getD (k + 1).toNat ByteArray.empty).extract 1 (((piecesB 32 s).getD (k + 1).toNat ByteArray.empty).size)))) [.int .i64 o, .int .i64 a, .int .i64 b, .int .i64 (parX (((piecesB 32 s).getD (k + 1).toNat ByteArray.empty).extract 1 (((piecesB 32 s).getD (k + 1).toNat ByteArray.empty).size))), .int .i64 q] [box b3 (nameL.map Value.string) 9, box b2 [.int .i64 o, .int .i64 a, .int .i64 b, .int .i64 (parX (((piecesB 32 s).getD (k + 1).toNat ByteArray.empty).extract 1 (((piecesB 32 s).getD (k + 1).toNat ByteArray.empty).size))), .int .i64 q] 23, rowOf (enc1 Value.string) ra1 rc1 9 1 (piecesB 32 s), box b1 [.int .i64 0, .int .i64 0, .int .i64 0, .int .i64 0, .int .i64 0] 23] (by kernel_rfl) rfl (by kernel_rfl) (by kernel_rfl) rfl ?_
              intro w23 S23
              refine J.run 6 K14_60 [(56, .int .i64 (IntKind.wrap .i64 (k + 1))), (8, .string (fieldsF o)), (5, .pointer (some ⟨b2, 0, none⟩)), (4, .slice ra1 ((piecesB 32 s).length) rc1), (2, .pointer (some ⟨b1, 0, none⟩))] w23 (by kernel_rfl) ?_
              refine J.head (.int .i64 (k + 1)) (congrArg (Value.int .i64) (IntWalk.i64_in _ (by omega))) ?_
              refine J.run 3 K14_21 [(9, .int .i64 (k + 1)), (8, .string (fieldsF o)), (5, .pointer (some ⟨b2, 0, none⟩)), (4, .slice ra1 ((piecesB 32 s).length) rc1), (2, .pointer (some ⟨b1, 0, none⟩))] w23 (by kernel_rfl) ?_
              refine J.run 0 K14_21 [(9, .int .i64 (k + 1)), (8, .string (fieldsF o)), (5, .pointer (some ⟨b2, 0, none⟩)), (4, .slice ra1 ((piecesB 32 s).length) rc1), (2, .pointer (some ⟨b1, 0, none⟩))] w23 (by kernel_rfl) ?_
              exact ih2 _ (show (((fieldsF o).size : Int) - (k + 1)).toNat < mm2 from by omega) a b (parX (((piecesB 32 s).getD (k + 1).toNat ByteArray.empty).extract 1 (((piecesB 32 s).getD (k + 1).toNat ByteArray.empty).size))) q (k + 1) w23 (by omega) (by omega) (by omega) (by have h_ := atW_next hG h0 (by omega) (w := ((piecesB 32 s).getD (k + 1).toNat ByteArray.empty)) rfl (by omega) ((ref_r (by omega) (by omega) rfl).trans (if_pos (by omega))); rw [set_val.2.2.1 (by omega)] at h_; exact h_) S23 rfl
           ·skip
            refine J.head (.bool true) (congrArg Value.bool (bne_iff_ne.2 fk15)) ?_
            refine J.run 4 K14_61 [(84, .agg #[.int .i64 0, .int .i64 0, .int .i64 0, .int .i64 0, .int .i64 0]), (2, .pointer (some ⟨b1, 0, none⟩))] w20 (by kernel_rfl) ?_
            refine J.stBox S20 3 23 0 (.agg #[.int .i64 0, .int .i64 0, .int .i64 0, .int .i64 0, .int .i64 0]) [.int .i64 0, .int .i64 0, .int .i64 0, .int .i64 0, .int .i64 0] [box b3 (nameL.map Value.string) 9, box b2 [.int .i64 o, .int .i64 a, .int .i64 b, .int .i64 c, .int .i64 q] 23, rowOf (enc1 Value.string) ra1 rc1 9 1 (piecesB 32 s), box b1 [.int .i64 0, .int .i64 0, .int .i64 0, .int .i64 0, .int .i64 0] 23] (by kernel_rfl) rfl (by kernel_rfl) (by kernel_rfl) rfl ?_
            intro w24 S24
            refine J.run 2 K14_62 [(3, .int .i64 3), (2, .pointer (some ⟨b1, 0, none⟩))] w24 (by kernel_rfl) ?_
            refine J.ret Tryd.f14 [.agg #[.int .i64 0, .int .i64 0, .int .i64 0, .int .i64 0, .int .i64 0], .int .i64 3] Tryd.func14 ⟨⟨⟨b1, 0, none⟩, by kernel_rfl, ldV_run (S24.nth 3 rfl) (by kernel_rfl)⟩, by kernel_rfl, trivial⟩ ?_
            refine hR _ _ ?_
            obtain ⟨e1, e2⟩ := ref_none (s := s) (by omega) (atW_none hG h0 (by omega) rfl (by omega) ((ref_r (by omega) (by omega) rfl).trans (if_neg (by omega))))
            exact ⟨by rw [e1, e2]; rfl, S24.nil⟩
          ·skip
           refine J.head (.bool true) (congrArg Value.bool (bne_iff_ne.2 fk14)) ?_
           refine J.run 4 K14_63 [(74, .agg #[.int .i64 0, .int .i64 0, .int .i64 0, .int .i64 0, .int .i64 0]), (2, .pointer (some ⟨b1, 0, none⟩))] w12 (by kernel_rfl) ?_
           refine J.stBox S12 3 23 0 (.agg #[.int .i64 0, .int .i64 0, .int .i64 0, .int .i64 0, .int .i64 0]) [.int .i64 0, .int .i64 0, .int .i64 0, .int .i64 0, .int .i64 0] [box b3 (nameL.map Value.string) 9, box b2 [.int .i64 o, .int .i64 a, .int .i64 b, .int .i64 c, .int .i64 q] 23, rowOf (enc1 Value.string) ra1 rc1 9 1 (piecesB 32 s), box b1 [.int .i64 0, .int .i64 0, .int .i64 0, .int .i64 0, .int .i64 0] 23] (by kernel_rfl) rfl (by kernel_rfl) (by kernel_rfl) rfl ?_
           intro w25 S25
           refine J.run 2 K14_64 [(3, .int .i64 3), (2, .pointer (some ⟨b1, 0, none⟩))] w25 (by kernel_rfl) ?_
           refine J.ret Tryd.f14 [.agg #[.int .i64 0, .int .i64 0, .int .i64 0, .int .i64 0, .int .i64 0], .int .i64 3] Tryd.func14 ⟨⟨⟨b1, 0, none⟩, by kernel_rfl, ldV_run (S25.nth 3 rfl) (by kernel_rfl)⟩, by kernel_rfl, trivial⟩ ?_
           refine hR _ _ ?_
           obtain ⟨e1, e2⟩ := ref_none (s := s) (by omega) (atW_none hG h0 (by omega) rfl (by omega) (ref_short (by omega) (by omega)))
           exact ⟨by rw [e1, e2]; rfl, S25.nil⟩
       ·skip
        refine J.head (.bool false) (congrArg Value.bool (decide_eq_false fk6)) ?_
        refine J.run 5 K14_65 [(5, .pointer (some ⟨b2, 0, none⟩)), (2, .pointer (some ⟨b1, 0, none⟩))] w12 (by kernel_rfl) ?_
        refine J.ok (OK.ldBox S12 1 104 23 0 (.agg #[.int .i64 o, .int .i64 a, .int .i64 b, .int .i64 c, .int .i64 q]) (by kernel_rfl) rfl (by kernel_rfl)) ?_
        refine J.callF 105 7 #[.agg #[.int .i64 o, .int .i64 a, .int .i64 b, .int .i64 c, .int .i64 q]] hb7 (by kernel_rfl) (rformed_any (⟨o, a, b, c, q⟩ : Ins) _ (show insQ _ (⟨o, a, b, c, q⟩ : Ins) from ⟨(show (-9223372036854775808) ≤ (o : Int) ∧ (o : Int) ≤ 9223372036854775807 from by omega), (show (-9223372036854775808) ≤ (a : Int) ∧ (a : Int) ≤ 9223372036854775807 from by omega), (show (-9223372036854775808) ≤ (b : Int) ∧ (b : Int) ≤ 9223372036854775807 from by omega), (show (-9223372036854775808) ≤ (c : Int) ∧ (c : Int) ≤ 9223372036854775807 from by omega), (show (-9223372036854775808) ≤ (q : Int) ∧ (q : Int) ≤ 9223372036854775807 from by omega), trivial⟩)) ?_
        rintro _ w26 ⟨rfl, T7⟩
        have S26 : Sep w [box b3 (nameL.map Value.string) 9, box b2 [.int .i64 o, .int .i64 a, .int .i64 b, .int .i64 c, .int .i64 q] 23, rowOf (enc1 Value.string) ra1 rc1 9 1 (piecesB 32 s), box b1 [.int .i64 0, .int .i64 0, .int .i64 0, .int .i64 0, .int .i64 0] 23] w26 := S12.trans T7
        clear T7 S12
        refine J.run 2 K14_66 [(106, .bool (!(formB (⟨o, a, b, c, q⟩ : Ins)))), (5, .pointer (some ⟨b2, 0, none⟩)), (2, .pointer (some ⟨b1, 0, none⟩))] w26 (by kernel_rfl) ?_
        rcases Bool.eq_false_or_eq_true (formB (⟨o, a, b, c, q⟩ : Ins)) with fk20 | fk20
        ·skip
         refine J.head (.bool false) (congrArg Value.bool (by rw [fk20]; rfl)) ?_
         refine J.run 4 K14_67 [(5, .pointer (some ⟨b2, 0, none⟩)), (2, .pointer (some ⟨b1, 0, none⟩))] w26 (by kernel_rfl) ?_
         refine J.ok (OK.ldBox S26 1 108 23 0 (.agg #[.int .i64 o, .int .i64 a, .int .i64 b, .int .i64 c, .int .i64 q]) (by kernel_rfl) rfl (by kernel_rfl)) ?_
         refine J.stBox S26 3 23 0 (.agg #[.int .i64 o, .int .i64 a, .int .i64 b, .int .i64 c, .int .i64 q]) [.int .i64 o, .int .i64 a, .int .i64 b, .int .i64 c, .int .i64 q] [box b3 (nameL.map Value.string) 9, box b2 [.int .i64 o, .int .i64 a, .int .i64 b, .int .i64 c, .int .i64 q] 23, rowOf (enc1 Value.string) ra1 rc1 9 1 (piecesB 32 s), box b1 [.int .i64 o, .int .i64 a, .int .i64 b, .int .i64 c, .int .i64 q] 23] (by kernel_rfl) rfl (by kernel_rfl) (by kernel_rfl) rfl ?_
         intro w27 S27
         refine J.run 2 K14_68 [(3, .int .i64 0), (2, .pointer (some ⟨b1, 0, none⟩))] w27 (by kernel_rfl) ?_
         refine J.ret Tryd.f14 [.agg #[.int .i64 o, .int .i64 a, .int .i64 b, .int .i64 c, .int .i64 q], .int .i64 0] Tryd.func14 ⟨⟨⟨b1, 0, none⟩, by kernel_rfl, ldV_run (S27.nth 3 rfl) (by kernel_rfl)⟩, by kernel_rfl, trivial⟩ ?_
         refine hR _ _ ?_
         obtain ⟨e1, e2⟩ := ref_yes (s := s) (by omega) (atW_end hG (by omega)) fk20
         exact ⟨by rw [e1, e2]; rfl, S27.nil⟩
        ·skip
         refine J.head (.bool true) (congrArg Value.bool (by rw [fk20]; rfl)) ?_
         refine J.run 4 K14_69 [(107, .agg #[.int .i64 0, .int .i64 0, .int .i64 0, .int .i64 0, .int .i64 0]), (2, .pointer (some ⟨b1, 0, none⟩))] w26 (by kernel_rfl) ?_
         refine J.stBox S26 3 23 0 (.agg #[.int .i64 0, .int .i64 0, .int .i64 0, .int .i64 0, .int .i64 0]) [.int .i64 0, .int .i64 0, .int .i64 0, .int .i64 0, .int .i64 0] [box b3 (nameL.map Value.string) 9, box b2 [.int .i64 o, .int .i64 a, .int .i64 b, .int .i64 c, .int .i64 q] 23, rowOf (enc1 Value.string) ra1 rc1 9 1 (piecesB 32 s), box b1 [.int .i64 0, .int .i64 0, .int .i64 0, .int .i64 0, .int .i64 0] 23] (by kernel_rfl) rfl (by kernel_rfl) (by kernel_rfl) rfl ?_
         intro w28 S28
         refine J.run 2 K14_70 [(3, .int .i64 3), (2, .pointer (some ⟨b1, 0, none⟩))] w28 (by kernel_rfl) ?_
         refine J.ret Tryd.f14 [.agg #[.int .i64 0, .int .i64 0, .int .i64 0, .int .i64 0, .int .i64 0], .int .i64 3] Tryd.func14 ⟨⟨⟨b1, 0, none⟩, by kernel_rfl, ldV_run (S28.nth 3 rfl) (by kernel_rfl)⟩, by kernel_rfl, trivial⟩ ?_
         refine hR _ _ ?_
         obtain ⟨e1, e2⟩ := ref_ill (s := s) (by omega) (atW_end hG (by omega)) fk20
         exact ⟨by rw [e1, e2]; rfl, S28.nil⟩
      exact L14_2 _ 0 0 0 0 0 w11 (by omega) (by omega) (by omega) (atW_start rfl hO2.symm (by omega) (by omega)) S11 rfl
     ·skip
      refine J.head (.bool true) (congrArg Value.bool (bne_iff_ne.2 fk5)) ?_
      refine J.run 4 K14_71 [(47, .agg #[.int .i64 0, .int .i64 0, .int .i64 0, .int .i64 0, .int .i64 0]), (2, .pointer (some ⟨b1, 0, none⟩))] w10 (by kernel_rfl) ?_
      refine J.stBox S10 3 23 0 (.agg #[.int .i64 0, .int .i64 0, .int .i64 0, .int .i64 0, .int .i64 0]) [.int .i64 0, .int .i64 0, .int .i64 0, .int .i64 0, .int .i64 0] [box b3 (nameL.map Value.string) 9, box b2 [.int .i64 o, .int .i64 0, .int .i64 0, .int .i64 0, .int .i64 0] 23, rowOf (enc1 Value.string) ra1 rc1 9 1 (piecesB 32 s), box b1 [.int .i64 0, .int .i64 0, .int .i64 0, .int .i64 0, .int .i64 0] 23] (by kernel_rfl) rfl (by kernel_rfl) (by kernel_rfl) rfl ?_
      intro w29 S29
      refine J.run 2 K14_72 [(3, .int .i64 3), (2, .pointer (some ⟨b1, 0, none⟩))] w29 (by kernel_rfl) ?_
      refine J.ret Tryd.f14 [.agg #[.int .i64 0, .int .i64 0, .int .i64 0, .int .i64 0, .int .i64 0], .int .i64 3] Tryd.func14 ⟨⟨⟨b1, 0, none⟩, by kernel_rfl, ldV_run (S29.nth 3 rfl) (by kernel_rfl)⟩, by kernel_rfl, trivial⟩ ?_
      refine hR _ _ ?_
      obtain ⟨e1, e2⟩ := ref_none (s := s) (by omega) (readI_not rfl (by first | exact .inl (by omega) | exact .inr (by rw [← hO2]; omega)))
      exact ⟨by rw [e1, e2]; rfl, S29.nil⟩
  exact L14_1 _ 0 1 w5 (by omega) (by omega) (rfl) S5 rfl

end Go.Proofs.YthfpejhonhaggaaDoor
