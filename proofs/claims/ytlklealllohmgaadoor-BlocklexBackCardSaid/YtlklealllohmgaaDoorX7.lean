/- Walks of functions of this seat, printed by a program over the engine. Conditions: as each theorem says. -/
import Derived.Test.YtlklealllohmgaaDoorX6
namespace Go.Proofs.YtlklealllohmgaaDoor
open Go.Eng Go.RowKit
set_option linter.unusedSimpArgs false
set_option linter.unusedVariables false
theorem hb11 : HasBody Tryd.prog 11 := fun _ _ => by kernel_rfl
noncomputable def K11_0 : List Item := adv 3 [] (bodyOf Tryd.f11)
noncomputable def K11_1 : List Item := adv 9 [] (popK K11_0)
noncomputable def K11_2 : List Item := adv 5 [true] K11_1
noncomputable def K11_3 : List Item := adv 2 [] (popK K11_2)
noncomputable def K11_4 : List Item := adv 20 [false] K11_1
noncomputable def K11_5 : List Item := adv 8 [] K11_4
noncomputable def K11_6 : List Item := adv 9 [true] K11_5
noncomputable def K11_7 : List Item := adv 1 [] K11_6
noncomputable def K11_8 : List Item := adv 1 [] K11_7
noncomputable def K11_9 : List Item := adv 9 [] (popK (popK K11_8))
noncomputable def K11_10 : List Item := adv 12 [true] K11_9
noncomputable def K11_11 : List Item := adv 3 [true] K11_10
noncomputable def K11_12 : List Item := adv 1 [] (popK K11_11)
noncomputable def K11_13 : List Item := adv 6 [] (popK (popK K11_12))
noncomputable def K11_14 : List Item := adv 2 [] K11_13
noncomputable def K11_15 : List Item := adv 9 [] K11_14
noncomputable def K11_16 : List Item := adv 6 [false] K11_10
noncomputable def K11_17 : List Item := adv 2 [] K11_16
noncomputable def K11_18 : List Item := adv 9 [] K11_17
noncomputable def K11_19 : List Item := adv 2 [] K11_9
noncomputable def K11_20 : List Item := adv 3 [] (popK K11_19)
noncomputable def K11_21 : List Item := adv 6 [true] K11_20
noncomputable def K11_22 : List Item := adv 3 [true] K11_21
noncomputable def K11_23 : List Item := adv 1 [] (popK K11_22)
noncomputable def K11_24 : List Item := adv 6 [] (popK (popK K11_23))
noncomputable def K11_25 : List Item := adv 2 [] K11_24
noncomputable def K11_26 : List Item := adv 9 [] K11_25
noncomputable def K11_27 : List Item := adv 6 [false] K11_21
noncomputable def K11_28 : List Item := adv 2 [] K11_27
noncomputable def K11_29 : List Item := adv 9 [] K11_28
noncomputable def K11_30 : List Item := adv 6 [false] K11_20
noncomputable def K11_31 : List Item := adv 11 [] (popK K11_30)
noncomputable def K11_32 : List Item := List.drop 1 K11_31
noncomputable def K11_33 : List Item := adv 6 [] K11_32
noncomputable def K11_34 : List Item := adv 2 [true] K11_33
noncomputable def K11_35 : List Item := adv 7 [] (rRest K11_34)
noncomputable def K11_36 : List Item := adv 6 [false] K11_33
noncomputable def K11_37 : List Item := adv 6 [] K11_31
noncomputable def K11_38 : List Item := adv 6 [true] K11_37
noncomputable def K11_39 : List Item := adv 4 [] K11_38
noncomputable def K11_40 : List Item := adv 4 [] K11_39
noncomputable def K11_41 : List Item := adv 2 [true] K11_40
noncomputable def K11_42 : List Item := adv 3 [false] K11_40
noncomputable def K11_43 : List Item := adv 6 [true] K11_39
noncomputable def K11_44 : List Item := adv 8 [] K11_38
noncomputable def K11_45 : List Item := adv 2 [true] K11_44
noncomputable def K11_46 : List Item := adv 3 [false] K11_44
noncomputable def K11_47 : List Item := adv 6 [false] K11_37
noncomputable def K11_48 : List Item := adv 8 [true] K11_47
noncomputable def K11_49 : List Item := adv 5 [] K11_47
noncomputable def K11_50 : List Item := adv 3 [true] K11_49
noncomputable def K11_51 : List Item := adv 7 [false] K11_49
noncomputable def K11_52 : List Item := adv 4 [false] K11_51
noncomputable def K11_53 : List Item := adv 2 [] (popK K11_52)
noncomputable def K11_54 : List Item := adv 5 [true] K11_53
noncomputable def K11_55 : List Item := adv 8 [] (popK (popK K11_54))
noncomputable def K11_56 : List Item := adv 2 [true] K11_55
noncomputable def K11_57 : List Item := adv 3 [false] K11_55
noncomputable def K11_58 : List Item := adv 4 [false] K11_53
noncomputable def K11_59 : List Item := adv 1 [] (popK K11_58)
noncomputable def K11_60 : List Item := adv 10 [true] K11_59
noncomputable def K11_61 : List Item := adv 9 [] (popK (popK K11_60))
noncomputable def K11_62 : List Item := adv 2 [true] K11_61
noncomputable def K11_63 : List Item := adv 3 [false] K11_61
noncomputable def K11_64 : List Item := adv 5 [] (rRest K11_63)
noncomputable def K11_65 : List Item := adv 3 [false] K11_64
noncomputable def K11_66 : List Item := adv 2 [true] K11_64
noncomputable def K11_67 : List Item := adv 5 [] K11_59
noncomputable def K11_68 : List Item := adv 5 [true] K11_67
noncomputable def K11_69 : List Item := adv 9 [] (popK (popK K11_68))
noncomputable def K11_70 : List Item := adv 2 [true] K11_69
noncomputable def K11_71 : List Item := adv 3 [false] K11_69
noncomputable def K11_72 : List Item := adv 5 [] (rRest K11_71)
noncomputable def K11_73 : List Item := adv 3 [false] K11_72
noncomputable def K11_74 : List Item := adv 2 [true] K11_72
noncomputable def K11_75 : List Item := adv 4 [false] K11_67
noncomputable def K11_76 : List Item := adv 2 [] (popK K11_75)
noncomputable def K11_77 : List Item := adv 5 [true] K11_76
noncomputable def K11_78 : List Item := adv 2 [false] K11_76
noncomputable def K11_79 : List Item := adv 7 [false] K11_5
noncomputable def K11_80 : List Item := adv 2 [] (popK K11_79)
set_option maxRecDepth 20000 in
set_option maxHeartbeats 20000000 in
theorem rtokens_any (s : ByteArray) (w : World) (hs : s.size ≤ 9223372036854775807) : Ret Tryd.prog 11 #[.string s] w (fun v w' => ∃ a cap, v = .tuple #[.slice a (tkF s).l.length cap, .agg #[.int .i64 (tkF s).pl, .int .i64 (tkF s).pc], .int .i64 (tkF s).e] ∧ Sep w [rowOf tkE a cap 36 4 (tkF s).l] w') := by
  have S0 := Sep.refl w
  refine Ret.named fun R hR => ?_
  refine Ret.of_J (N := 141) [(0, .string s)] Tryd.func11 rfl rfl (Nat.le_of_ble_eq_true (by kernel_rfl)) (by kernel_rfl) ?_
  refine J.run 3 K11_0 [(0, .string s)] w (by kernel_rfl) ?_
  refine J.new S0 3 [.int .i64 0, .int .i64 0] 25 (by kernel_rfl) ?_
  intro b1 w1 S1
  refine J.run 9 K11_1 [(18, .bool (decide ((s.size : Int) > 16384))), (3, .pointer (some ⟨b1, 0, none⟩)), (0, .string s)] w1 (by kernel_rfl) ?_
  by_cases fk1 : (s.size : Int) > 16384
  · skip
    refine J.head (.bool true) (congrArg Value.bool (decide_eq_true fk1)) ?_
    refine J.run 5 K11_2 [(2, .slice none 0 0), (19, .agg #[.int .i64 0, .int .i64 0]), (3, .pointer (some ⟨b1, 0, none⟩))] w1 (by kernel_rfl) ?_
    refine J.stBox S1 0 25 0 (.agg #[.int .i64 0, .int .i64 0]) [.int .i64 0, .int .i64 0] [box b1 [.int .i64 0, .int .i64 0] 25] (by kernel_rfl) rfl (by kernel_rfl) (by kernel_rfl) rfl ?_
    intro w2 S2
    refine J.run 2 K11_3 [(4, .int .i64 5), (2, .slice none 0 0), (3, .pointer (some ⟨b1, 0, none⟩))] w2 (by kernel_rfl) ?_
    refine J.ret Tryd.f11 [.slice none 0 0, .agg #[.int .i64 0, .int .i64 0], .int .i64 5] Tryd.func11 ⟨by kernel_rfl, ⟨⟨b1, 0, none⟩, by kernel_rfl, ldV_run (S2.nth 0 rfl) (by kernel_rfl)⟩, by kernel_rfl, trivial⟩ ?_
    refine hR _ _ ?_
    have e_ : tkF s = ⟨[], 0, 0, 5⟩ := by unfold tkF; rw [if_pos (by omega)]
    exact ⟨none, 0, by rw [e_]; rfl, by rw [e_]; exact S2.nil.nilRow 36 4⟩
  · skip
    refine J.head (.bool false) (congrArg Value.bool (decide_eq_false fk1)) ?_
    refine J.run 20 K11_4 [(10, .int .i64 0), (9, .bool false), (8, .bool false), (7, .int .i64 0), (6, .int .i64 1), (5, .slice none 0 0), (3, .pointer (some ⟨b1, 0, none⟩)), (0, .string s)] w1 (by kernel_rfl) ?_
    have S3 : Sep w [rowOf tkE none 0 36 4 ([]), box b1 [.int .i64 0, .int .i64 0] 25] w1 := S1.nilRow 36 4
    have L11_1 : ∀ (mm_ : Nat) (ra : Option Addr) (rc : Nat) (out : List Tk) (ln : Int) (st0 : Int) (sm : Bool) (cm : Bool) (i : Int) (w3 : World), (0 ≤ i) → (i ≤ (s.size : Int) + 1) → (1 ≤ ln ∧ ln ≤ i + 1) → (0 ≤ st0 ∧ st0 ≤ i) → (((out).length : Int) ≤ i) → ((i ≤ (s.size : Int) → tkF s = gT ((ls s).drop (i).toNat) ln (i - st0 + 1) sm cm out) ∧ (i > (s.size : Int) → tkF s = ⟨out, 0, 0, 0⟩)) → Sep w [rowOf tkE ra rc 36 4 out, box b1 [.int .i64 0, .int .i64 0] 25] w3 → ((s.size : Int) + 1 - i).toNat = mm_ → J Tryd.prog 11 141 R K11_4 [(10, .int .i64 i), (9, .bool cm), (8, .bool sm), (7, .int .i64 st0), (6, .int .i64 ln), (5, .slice ra out.length rc), (3, .pointer (some ⟨b1, 0, none⟩)), (0, .string s)] w3 := by
      intro mm1
      induction mm1 using Nat.strongRecOn with
      | _ mm1 ih1 =>
      intro ra rc out ln st0 sm cm i w3 h0 h1 hln hst hol hQ S4 hm1
      refine J.run 8 K11_5 [(23, .bool (decide (i ≤ (s.size : Int)))), (10, .int .i64 i), (9, .bool cm), (8, .bool sm), (7, .int .i64 st0), (6, .int .i64 ln), (5, .slice ra out.length rc), (3, .pointer (some ⟨b1, 0, none⟩)), (0, .string s)] w3 (by kernel_rfl) ?_
      by_cases fk2 : i ≤ (s.size : Int)
      · skip
        refine J.head (.bool true) (congrArg Value.bool (decide_eq_true fk2)) ?_
        refine J.run 9 K11_6 [(27, .int .i64 (IntKind.wrap .i64 (i - st0))), (24, .int .i64 ln), (10, .int .i64 i), (9, .bool cm), (8, .bool sm), (7, .int .i64 st0), (6, .int .i64 ln), (5, .slice ra out.length rc), (3, .pointer (some ⟨b1, 0, none⟩)), (0, .string s)] w3 (by kernel_rfl) ?_
        refine J.head (.int .i64 (i - st0)) (congrArg (Value.int .i64) (IntWalk.i64_in _ (by omega))) ?_
        refine J.run 1 K11_7 [(28, .int .i64 (IntKind.wrap .i64 ((i - st0) + 1))), (24, .int .i64 ln), (10, .int .i64 i), (9, .bool cm), (8, .bool sm), (7, .int .i64 st0), (6, .int .i64 ln), (5, .slice ra out.length rc), (3, .pointer (some ⟨b1, 0, none⟩)), (0, .string s)] w3 (by kernel_rfl) ?_
        refine J.head (.int .i64 ((i - st0) + 1)) (congrArg (Value.int .i64) (IntWalk.i64_in _ (by omega))) ?_
        refine J.run 1 K11_8 [(29, .agg #[.int .i64 ln, .int .i64 ((i - st0) + 1)]), (10, .int .i64 i), (9, .bool cm), (8, .bool sm), (7, .int .i64 st0), (6, .int .i64 ln), (5, .slice ra out.length rc), (3, .pointer (some ⟨b1, 0, none⟩)), (0, .string s)] w3 (by kernel_rfl) ?_
        refine J.new S4 11 [.int .i64 0, .int .i64 0] 25 (by kernel_rfl) ?_
        intro b2 w4 S5
        refine J.stBox S5 0 25 0 (.agg #[.int .i64 ln, .int .i64 ((i - st0) + 1)]) [.int .i64 ln, .int .i64 ((i - st0) + 1)] [box b2 [.int .i64 ln, .int .i64 ((i - st0) + 1)] 25, rowOf tkE ra rc 36 4 out, box b1 [.int .i64 0, .int .i64 0] 25] (by kernel_rfl) rfl (by kernel_rfl) (by kernel_rfl) rfl ?_
        intro w5 S6
        refine J.run 9 K11_9 [(34, .bool (i == (s.size : Int))), (11, .pointer (some ⟨b2, 0, none⟩)), (10, .int .i64 i), (9, .bool cm), (8, .bool sm), (7, .int .i64 st0), (6, .int .i64 ln), (5, .slice ra out.length rc), (3, .pointer (some ⟨b1, 0, none⟩)), (0, .string s)] w5 (by kernel_rfl) ?_
        by_cases fk3 : i = (s.size : Int)
        · skip
          refine J.head (.bool true) (congrArg Value.bool (beq_iff_eq.2 fk3)) ?_
          refine J.run 12 K11_10 [(40, .bool sm), (11, .pointer (some ⟨b2, 0, none⟩)), (10, .int .i64 i), (6, .int .i64 ln), (5, .slice ra out.length rc), (3, .pointer (some ⟨b1, 0, none⟩)), (0, .string s)] w5 (by kernel_rfl) ?_
          rcases Bool.eq_false_or_eq_true sm with fk4 | fk4
          · skip
            refine J.head (.bool true) (congrArg Value.bool fk4) ?_
            refine J.run 3 K11_11 [(41, .slice ra out.length rc), (11, .pointer (some ⟨b2, 0, none⟩)), (10, .int .i64 i), (6, .int .i64 ln), (3, .pointer (some ⟨b1, 0, none⟩)), (0, .string s)] w5 (by kernel_rfl) ?_
            refine J.ok (OK.ldBox S6 0 42 25 0 (.agg #[.int .i64 ln, .int .i64 ((i - st0) + 1)]) (by kernel_rfl) rfl (by kernel_rfl)) ?_
            refine J.run 1 K11_12 [(43, .agg #[.int .i64 4, .string ByteArray.empty, .int .i64 ln, .int .i64 ((i - st0) + 1)]), (41, .slice ra out.length rc), (10, .int .i64 i), (6, .int .i64 ln), (3, .pointer (some ⟨b1, 0, none⟩)), (0, .string s)] w5 (by kernel_rfl) ?_
            refine J.newSlice S6 44 1 [.int .i64 4, .string ByteArray.empty, .int .i64 ln, .int .i64 ((i - st0) + 1)] 36 (by kernel_rfl) ?_
            intro b3 w6 S7
            refine J.append tkE S7 2 out (⟨4, ByteArray.empty, ln, (i - st0) + 1⟩ : Tk) 45 23 (.agg #[.int .i64 0, .string ByteArray.empty, .int .i64 0, .int .i64 0]) 40 ⟨b3, 0, none⟩ 1 rfl (by kernel_rfl) (by kernel_rfl) (by kernel_rfl) (by kernel_rfl) (by decide) (box_cells (S7.nth 0 rfl)) (by kernel_rfl) (by kernel_rfl) (⟨by omega, by omega⟩) ?_
            intro ra1 rc1 w7 S8
            replace S8 : Sep w [box b3 [.int .i64 4, .string ByteArray.empty, .int .i64 ln, .int .i64 ((i - st0) + 1)] 36, box b2 [.int .i64 ln, .int .i64 ((i - st0) + 1)] 25, rowOf tkE ra1 rc1 36 4 (out ++ [(⟨4, ByteArray.empty, ln, (i - st0) + 1⟩ : Tk)]), box b1 [.int .i64 0, .int .i64 0] 25] w7 := S8
            have S9 : Sep w [box b2 [.int .i64 ln, .int .i64 ((i - st0) + 1)] 25, rowOf tkE ra1 rc1 36 4 (out ++ [(⟨4, ByteArray.empty, ln, (i - st0) + 1⟩ : Tk)]), box b1 [.int .i64 0, .int .i64 0] 25] w7 := S8.erase 0
            clear S8
            refine J.run 6 K11_13 [(47, .int .i64 (IntKind.wrap .i64 (ln + 1))), (5, .slice ra1 ((out ++ [(⟨4, ByteArray.empty, ln, (i - st0) + 1⟩ : Tk)]).length) rc1), (10, .int .i64 i), (3, .pointer (some ⟨b1, 0, none⟩)), (0, .string s)] w7 (by kernel_rfl) ?_
            refine J.head (.int .i64 (ln + 1)) (congrArg (Value.int .i64) (IntWalk.i64_in _ (by omega))) ?_
            refine J.run 2 K11_14 [(49, .int .i64 (IntKind.wrap .i64 (i + 1))), (47, .int .i64 (ln + 1)), (5, .slice ra1 ((out ++ [(⟨4, ByteArray.empty, ln, (i - st0) + 1⟩ : Tk)]).length) rc1), (10, .int .i64 i), (3, .pointer (some ⟨b1, 0, none⟩)), (0, .string s)] w7 (by kernel_rfl) ?_
            refine J.head (.int .i64 (i + 1)) (congrArg (Value.int .i64) (IntWalk.i64_in _ (by omega))) ?_
            refine J.run 9 K11_15 [(51, .int .i64 (IntKind.wrap .i64 (i + 1))), (9, .bool false), (8, .bool false), (7, .int .i64 (i + 1)), (6, .int .i64 (ln + 1)), (5, .slice ra1 ((out ++ [(⟨4, ByteArray.empty, ln, (i - st0) + 1⟩ : Tk)]).length) rc1), (3, .pointer (some ⟨b1, 0, none⟩)), (0, .string s)] w7 (by kernel_rfl) ?_
            refine J.head (.int .i64 (i + 1)) (congrArg (Value.int .i64) (IntWalk.i64_in _ (by omega))) ?_
            refine J.run 4 K11_4 [(10, .int .i64 (i + 1)), (9, .bool false), (8, .bool false), (7, .int .i64 (i + 1)), (6, .int .i64 (ln + 1)), (5, .slice ra1 ((out ++ [(⟨4, ByteArray.empty, ln, (i - st0) + 1⟩ : Tk)]).length) rc1), (3, .pointer (some ⟨b1, 0, none⟩)), (0, .string s)] w7 (by kernel_rfl) ?_
            have S10 : Sep w [rowOf tkE ra1 rc1 36 4 (out ++ [(⟨4, ByteArray.empty, ln, (i - st0) + 1⟩ : Tk)]), box b1 [.int .i64 0, .int .i64 0] 25] w7 := S9.erase 0
            clear S9
            refine J.run 0 K11_4 [(10, .int .i64 (i + 1)), (9, .bool false), (8, .bool false), (7, .int .i64 (i + 1)), (6, .int .i64 (ln + 1)), (5, .slice ra1 ((out ++ [(⟨4, ByteArray.empty, ln, (i - st0) + 1⟩ : Tk)]).length) rc1), (3, .pointer (some ⟨b1, 0, none⟩)), (0, .string s)] w7 (by kernel_rfl) ?_
            exact ih1 _ (show ((s.size : Int) + 1 - (i + 1)).toNat < mm1 from by omega) ra1 rc1 (out ++ [(⟨4, ByteArray.empty, ln, (i - st0) + 1⟩ : Tk)]) (ln + 1) (i + 1) false false (i + 1) w7 (by omega) (by omega) (by omega) (by omega) (by (try rw [List.length_append, List.length_singleton]); omega) (⟨fun h_ => by omega, fun _ => (hQ.1 (by omega)).trans ((rx_end (by omega)).trans (by unfold endT; rw [if_pos fk4]))⟩) S10 rfl
          · skip
            refine J.head (.bool false) (congrArg Value.bool fk4) ?_
            refine J.run 6 K11_16 [(47, .int .i64 (IntKind.wrap .i64 (ln + 1))), (10, .int .i64 i), (5, .slice ra out.length rc), (3, .pointer (some ⟨b1, 0, none⟩)), (0, .string s)] w5 (by kernel_rfl) ?_
            refine J.head (.int .i64 (ln + 1)) (congrArg (Value.int .i64) (IntWalk.i64_in _ (by omega))) ?_
            refine J.run 2 K11_17 [(49, .int .i64 (IntKind.wrap .i64 (i + 1))), (47, .int .i64 (ln + 1)), (10, .int .i64 i), (5, .slice ra out.length rc), (3, .pointer (some ⟨b1, 0, none⟩)), (0, .string s)] w5 (by kernel_rfl) ?_
            refine J.head (.int .i64 (i + 1)) (congrArg (Value.int .i64) (IntWalk.i64_in _ (by omega))) ?_
            refine J.run 9 K11_18 [(51, .int .i64 (IntKind.wrap .i64 (i + 1))), (9, .bool false), (8, .bool false), (7, .int .i64 (i + 1)), (6, .int .i64 (ln + 1)), (5, .slice ra out.length rc), (3, .pointer (some ⟨b1, 0, none⟩)), (0, .string s)] w5 (by kernel_rfl) ?_
            refine J.head (.int .i64 (i + 1)) (congrArg (Value.int .i64) (IntWalk.i64_in _ (by omega))) ?_
            refine J.run 4 K11_4 [(10, .int .i64 (i + 1)), (9, .bool false), (8, .bool false), (7, .int .i64 (i + 1)), (6, .int .i64 (ln + 1)), (5, .slice ra out.length rc), (3, .pointer (some ⟨b1, 0, none⟩)), (0, .string s)] w5 (by kernel_rfl) ?_
            have S11 : Sep w [rowOf tkE ra rc 36 4 out, box b1 [.int .i64 0, .int .i64 0] 25] w5 := S6.erase 0
            clear S6
            refine J.run 0 K11_4 [(10, .int .i64 (i + 1)), (9, .bool false), (8, .bool false), (7, .int .i64 (i + 1)), (6, .int .i64 (ln + 1)), (5, .slice ra out.length rc), (3, .pointer (some ⟨b1, 0, none⟩)), (0, .string s)] w5 (by kernel_rfl) ?_
            exact ih1 _ (show ((s.size : Int) + 1 - (i + 1)).toNat < mm1 from by omega) ra rc out (ln + 1) (i + 1) false false (i + 1) w5 (by omega) (by omega) (by omega) (by omega) (by (try rw [List.length_append, List.length_singleton]); omega) (⟨fun h_ => by omega, fun _ => (hQ.1 (by omega)).trans ((rx_end (by omega)).trans (by unfold endT; rw [if_neg (by rw [fk4]; decide)]))⟩) S11 rfl
        · skip
          refine J.head (.bool false) (congrArg Value.bool (beq_eq_false_iff_ne.2 fk3)) ?_
          obtain ⟨c, r, hr, hc, hr2⟩ := drop_byte (s := s) (i := i) (by omega) (by omega)
          refine J.run 2 K11_19 [(36, .int .i64 i), (35, .string s), (34, .bool false), (11, .pointer (some ⟨b2, 0, none⟩)), (10, .int .i64 i), (9, .bool cm), (8, .bool sm), (7, .int .i64 st0), (6, .int .i64 ln), (5, .slice ra out.length rc), (3, .pointer (some ⟨b1, 0, none⟩)), (0, .string s)] w5 (by kernel_rfl) ?_
          have := byteAt_bounds s (i).toNat
          refine J.ok (OK.byte 37 9 s i (byteAt s (i).toNat) (by kernel_rfl) (by kernel_rfl) (by omega) (by omega) (rfl)) ?_
          refine J.run 3 K11_20 [(39, .bool ((byteAt s (i).toNat) == 10)), (11, .pointer (some ⟨b2, 0, none⟩)), (10, .int .i64 i), (9, .bool cm), (8, .bool sm), (7, .int .i64 st0), (6, .int .i64 ln), (5, .slice ra out.length rc), (3, .pointer (some ⟨b1, 0, none⟩)), (0, .string s)] w5 (by kernel_rfl) ?_
          by_cases fk5 : (byteAt s (i).toNat) = 10
          · skip
            refine J.head (.bool true) (congrArg Value.bool (beq_iff_eq.2 fk5)) ?_
            refine J.run 6 K11_21 [(40, .bool sm), (11, .pointer (some ⟨b2, 0, none⟩)), (10, .int .i64 i), (6, .int .i64 ln), (5, .slice ra out.length rc), (3, .pointer (some ⟨b1, 0, none⟩)), (0, .string s)] w5 (by kernel_rfl) ?_
            rcases Bool.eq_false_or_eq_true sm with fk6 | fk6
            · skip
              refine J.head (.bool true) (congrArg Value.bool fk6) ?_
              refine J.run 3 K11_22 [(41, .slice ra out.length rc), (11, .pointer (some ⟨b2, 0, none⟩)), (10, .int .i64 i), (6, .int .i64 ln), (3, .pointer (some ⟨b1, 0, none⟩)), (0, .string s)] w5 (by kernel_rfl) ?_
              refine J.ok (OK.ldBox S6 0 42 25 0 (.agg #[.int .i64 ln, .int .i64 ((i - st0) + 1)]) (by kernel_rfl) rfl (by kernel_rfl)) ?_
              refine J.run 1 K11_23 [(43, .agg #[.int .i64 4, .string ByteArray.empty, .int .i64 ln, .int .i64 ((i - st0) + 1)]), (41, .slice ra out.length rc), (10, .int .i64 i), (6, .int .i64 ln), (3, .pointer (some ⟨b1, 0, none⟩)), (0, .string s)] w5 (by kernel_rfl) ?_
              refine J.newSlice S6 44 1 [.int .i64 4, .string ByteArray.empty, .int .i64 ln, .int .i64 ((i - st0) + 1)] 36 (by kernel_rfl) ?_
              intro b4 w8 S12
              refine J.append tkE S12 2 out (⟨4, ByteArray.empty, ln, (i - st0) + 1⟩ : Tk) 45 23 (.agg #[.int .i64 0, .string ByteArray.empty, .int .i64 0, .int .i64 0]) 40 ⟨b4, 0, none⟩ 1 rfl (by kernel_rfl) (by kernel_rfl) (by kernel_rfl) (by kernel_rfl) (by decide) (box_cells (S12.nth 0 rfl)) (by kernel_rfl) (by kernel_rfl) (⟨by omega, by omega⟩) ?_
              intro ra2 rc2 w9 S13
              replace S13 : Sep w [box b4 [.int .i64 4, .string ByteArray.empty, .int .i64 ln, .int .i64 ((i - st0) + 1)] 36, box b2 [.int .i64 ln, .int .i64 ((i - st0) + 1)] 25, rowOf tkE ra2 rc2 36 4 (out ++ [(⟨4, ByteArray.empty, ln, (i - st0) + 1⟩ : Tk)]), box b1 [.int .i64 0, .int .i64 0] 25] w9 := S13
              have S14 : Sep w [box b2 [.int .i64 ln, .int .i64 ((i - st0) + 1)] 25, rowOf tkE ra2 rc2 36 4 (out ++ [(⟨4, ByteArray.empty, ln, (i - st0) + 1⟩ : Tk)]), box b1 [.int .i64 0, .int .i64 0] 25] w9 := S13.erase 0
              clear S13
              refine J.run 6 K11_24 [(47, .int .i64 (IntKind.wrap .i64 (ln + 1))), (5, .slice ra2 ((out ++ [(⟨4, ByteArray.empty, ln, (i - st0) + 1⟩ : Tk)]).length) rc2), (10, .int .i64 i), (3, .pointer (some ⟨b1, 0, none⟩)), (0, .string s)] w9 (by kernel_rfl) ?_
              refine J.head (.int .i64 (ln + 1)) (congrArg (Value.int .i64) (IntWalk.i64_in _ (by omega))) ?_
              refine J.run 2 K11_25 [(49, .int .i64 (IntKind.wrap .i64 (i + 1))), (47, .int .i64 (ln + 1)), (5, .slice ra2 ((out ++ [(⟨4, ByteArray.empty, ln, (i - st0) + 1⟩ : Tk)]).length) rc2), (10, .int .i64 i), (3, .pointer (some ⟨b1, 0, none⟩)), (0, .string s)] w9 (by kernel_rfl) ?_
              refine J.head (.int .i64 (i + 1)) (congrArg (Value.int .i64) (IntWalk.i64_in _ (by omega))) ?_
              refine J.run 9 K11_26 [(51, .int .i64 (IntKind.wrap .i64 (i + 1))), (9, .bool false), (8, .bool false), (7, .int .i64 (i + 1)), (6, .int .i64 (ln + 1)), (5, .slice ra2 ((out ++ [(⟨4, ByteArray.empty, ln, (i - st0) + 1⟩ : Tk)]).length) rc2), (3, .pointer (some ⟨b1, 0, none⟩)), (0, .string s)] w9 (by kernel_rfl) ?_
              refine J.head (.int .i64 (i + 1)) (congrArg (Value.int .i64) (IntWalk.i64_in _ (by omega))) ?_
              refine J.run 4 K11_4 [(10, .int .i64 (i + 1)), (9, .bool false), (8, .bool false), (7, .int .i64 (i + 1)), (6, .int .i64 (ln + 1)), (5, .slice ra2 ((out ++ [(⟨4, ByteArray.empty, ln, (i - st0) + 1⟩ : Tk)]).length) rc2), (3, .pointer (some ⟨b1, 0, none⟩)), (0, .string s)] w9 (by kernel_rfl) ?_
              have S15 : Sep w [rowOf tkE ra2 rc2 36 4 (out ++ [(⟨4, ByteArray.empty, ln, (i - st0) + 1⟩ : Tk)]), box b1 [.int .i64 0, .int .i64 0] 25] w9 := S14.erase 0
              clear S14
              refine J.run 0 K11_4 [(10, .int .i64 (i + 1)), (9, .bool false), (8, .bool false), (7, .int .i64 (i + 1)), (6, .int .i64 (ln + 1)), (5, .slice ra2 ((out ++ [(⟨4, ByteArray.empty, ln, (i - st0) + 1⟩ : Tk)]).length) rc2), (3, .pointer (some ⟨b1, 0, none⟩)), (0, .string s)] w9 (by kernel_rfl) ?_
              exact ih1 _ (show ((s.size : Int) + 1 - (i + 1)).toNat < mm1 from by omega) ra2 rc2 (out ++ [(⟨4, ByteArray.empty, ln, (i - st0) + 1⟩ : Tk)]) (ln + 1) (i + 1) false false (i + 1) w9 (by omega) (by omega) (by omega) (by omega) (by (try rw [List.length_append, List.length_singleton]); omega) (⟨fun _ => (hQ.1 (by omega)).trans ((rx_line hr hc hr2 (by omega) cm).trans (by unfold endT; rw [if_pos fk6]; congr 1; omega)), fun h_ => by omega⟩) S15 rfl
            · skip
              refine J.head (.bool false) (congrArg Value.bool fk6) ?_
              refine J.run 6 K11_27 [(47, .int .i64 (IntKind.wrap .i64 (ln + 1))), (10, .int .i64 i), (5, .slice ra out.length rc), (3, .pointer (some ⟨b1, 0, none⟩)), (0, .string s)] w5 (by kernel_rfl) ?_
              refine J.head (.int .i64 (ln + 1)) (congrArg (Value.int .i64) (IntWalk.i64_in _ (by omega))) ?_
              refine J.run 2 K11_28 [(49, .int .i64 (IntKind.wrap .i64 (i + 1))), (47, .int .i64 (ln + 1)), (10, .int .i64 i), (5, .slice ra out.length rc), (3, .pointer (some ⟨b1, 0, none⟩)), (0, .string s)] w5 (by kernel_rfl) ?_
              refine J.head (.int .i64 (i + 1)) (congrArg (Value.int .i64) (IntWalk.i64_in _ (by omega))) ?_
              refine J.run 9 K11_29 [(51, .int .i64 (IntKind.wrap .i64 (i + 1))), (9, .bool false), (8, .bool false), (7, .int .i64 (i + 1)), (6, .int .i64 (ln + 1)), (5, .slice ra out.length rc), (3, .pointer (some ⟨b1, 0, none⟩)), (0, .string s)] w5 (by kernel_rfl) ?_
              refine J.head (.int .i64 (i + 1)) (congrArg (Value.int .i64) (IntWalk.i64_in _ (by omega))) ?_
              refine J.run 4 K11_4 [(10, .int .i64 (i + 1)), (9, .bool false), (8, .bool false), (7, .int .i64 (i + 1)), (6, .int .i64 (ln + 1)), (5, .slice ra out.length rc), (3, .pointer (some ⟨b1, 0, none⟩)), (0, .string s)] w5 (by kernel_rfl) ?_
              have S16 : Sep w [rowOf tkE ra rc 36 4 out, box b1 [.int .i64 0, .int .i64 0] 25] w5 := S6.erase 0
              clear S6
              refine J.run 0 K11_4 [(10, .int .i64 (i + 1)), (9, .bool false), (8, .bool false), (7, .int .i64 (i + 1)), (6, .int .i64 (ln + 1)), (5, .slice ra out.length rc), (3, .pointer (some ⟨b1, 0, none⟩)), (0, .string s)] w5 (by kernel_rfl) ?_
              exact ih1 _ (show ((s.size : Int) + 1 - (i + 1)).toNat < mm1 from by omega) ra rc out (ln + 1) (i + 1) false false (i + 1) w5 (by omega) (by omega) (by omega) (by omega) (by (try rw [List.length_append, List.length_singleton]); omega) (⟨fun _ => (hQ.1 (by omega)).trans ((rx_line hr hc hr2 (by omega) cm).trans (by unfold endT; rw [if_neg (by rw [fk6]; decide)]; congr 1; omega)), fun h_ => by omega⟩) S16 rfl
          · skip
            refine J.head (.bool false) (congrArg Value.bool (beq_eq_false_iff_ne.2 fk5)) ?_
            refine J.run 6 K11_30 [(53, .int .i64 i), (52, .string s), (11, .pointer (some ⟨b2, 0, none⟩)), (10, .int .i64 i), (9, .bool cm), (8, .bool sm), (7, .int .i64 st0), (6, .int .i64 ln), (5, .slice ra out.length rc), (3, .pointer (some ⟨b1, 0, none⟩)), (0, .string s)] w5 (by kernel_rfl) ?_
            have := byteAt_bounds s (i).toNat
            refine J.ok (OK.byte 54 9 s i (byteAt s (i).toNat) (by kernel_rfl) (by kernel_rfl) (by omega) (by omega) (rfl)) ?_
            refine J.run 11 K11_31 [(14, .int .i64 0), (13, .int .i64 1), (12, .int .u8 (byteAt s (i).toNat)), (11, .pointer (some ⟨b2, 0, none⟩)), (10, .int .i64 i), (9, .bool cm), (8, .bool sm), (7, .int .i64 st0), (6, .int .i64 ln), (5, .slice ra out.length rc), (3, .pointer (some ⟨b1, 0, none⟩)), (0, .string s)] w5 (by kernel_rfl) ?_
            have X1 : ∀ (cm2 : Bool) (n : Int) (k : Int) (w10 : World), (1 ≤ n ∧ i + n ≤ (s.size : Int)) → (0 ≤ k) → (tkF s = gT ((ls s).drop (i + n).toNat) ln ((i - st0 + 1) + n) (sm || decide (0 < k)) cm2 (addT (k, (n).toNat, 0) ((ls s).drop i.toNat) ln (i - st0 + 1) out)) → Sep w [box b2 [.int .i64 ln, .int .i64 ((i - st0) + 1)] 25, rowOf tkE ra rc 36 4 out, box b1 [.int .i64 0, .int .i64 0] 25] w10 → J Tryd.prog 11 141 R K11_32 [(11, .pointer (some ⟨b2, 0, none⟩)), (10, .int .i64 i), (8, .bool sm), (7, .int .i64 st0), (6, .int .i64 ln), (5, .slice ra out.length rc), (3, .pointer (some ⟨b1, 0, none⟩)), (0, .string s), (9, .bool cm2), (13, .int .i64 n), (14, .int .i64 k)] w10 := by
              intro cm2 n k w10 hn hk hJ S17
              refine J.run 6 K11_33 [(123, .bool (decide (k > 0))), (11, .pointer (some ⟨b2, 0, none⟩)), (10, .int .i64 i), (8, .bool sm), (7, .int .i64 st0), (6, .int .i64 ln), (5, .slice ra out.length rc), (3, .pointer (some ⟨b1, 0, none⟩)), (0, .string s), (9, .bool cm2), (13, .int .i64 n), (14, .int .i64 k)] w10 (by kernel_rfl) ?_
              by_cases fk7 : k > 0
              · skip
                refine J.head (.bool true) (congrArg Value.bool (decide_eq_true fk7)) ?_
                refine J.run 2 K11_34 [(11, .pointer (some ⟨b2, 0, none⟩)), (10, .int .i64 i), (7, .int .i64 st0), (6, .int .i64 ln), (5, .slice ra out.length rc), (3, .pointer (some ⟨b1, 0, none⟩)), (0, .string s), (9, .bool cm2), (13, .int .i64 n), (14, .int .i64 k)] w10 (by kernel_rfl) ?_
                refine J.drawPlan (fun w_ => Sep w [box b2 [.int .i64 ln, .int .i64 ((i - st0) + 1)] 25, box b1 [.int .i64 0, .int .i64 0] 25] w_) [(0, true), (1, true), (2, true), (3, true), (4, true), (5, true), (6, true), (7, true), (8, true), (9, true), (10, false), (11, false), (12, true)] S17 Tryd.mixed (by kernel_rfl) (planOK_of (T := [(0, some 124, 32), (0, some 125, 16384), (0, some 126, 1), (0, some 127, 1024), (0, some 128, 1024), (0, some 129, 8192), (48, some 130, 1020847100762815390390123822295304634368), (76, some 131, 1616341242874457701451029385300899004416), (0, some 132, 2048), (386, some 133, 8209312101967640431053912404291408101376), (512, some 134, 10889035741470030830827987437816582766592), (1025, some 135, 21799339130872620315622435788597651046400), (4095, some 5, 43556142965880123323311949751266331066368)]) (by kernel_rfl) (by kernel_rfl)) ?_
                intro w11 S18
                refine PB.mk (S18.sub (.cons_cons _ (.cons _ (.cons_cons _ (.slnil))))) ?_
                refine PL.take 0 124 (.slice ra out.length rc) (fun _ _ => by kernel_rfl) ?_
                refine PL.take 1 125 (.int .i64 k) (fun _ _ => by kernel_rfl) ?_
                refine PL.take 2 126 (.string s) (fun _ _ => by kernel_rfl) ?_
                refine PL.take 3 127 (.int .i64 i) (fun _ _ => by kernel_rfl) ?_
                refine PL.take 4 128 (.int .i64 i) (fun _ _ => by kernel_rfl) ?_
                refine PL.take 5 129 (.int .i64 n) (fun _ _ => by kernel_rfl) ?_
                refine PL.take 6 130 (.int .i64 (IntKind.wrap .i64 (i + n))) (fun _ _ => by kernel_rfl) ?_
                refine PL.head (.int .i64 (i + n)) (congrArg (Value.int .i64) (IntWalk.i64_in _ (by omega))) ?_
                refine PL.takeOK 7 (fun w_ S_ => OK.sliceT 131 9 s (some (.int .i64 i)) (some (.int .i64 (i + n))) ((i).toNat) ((i + n).toNat) (by kernel_rfl) (by kernel_rfl) (.inr ⟨_, _, rfl, by omega⟩) (.inr ⟨_, _, rfl, by omega⟩) (by first | omega | (simp; omega)) (by first | omega | (simp; omega))) rfl ?_
                refine PL.takeOK 8 (fun w_ S_ => OK.ldBox S_ 0 132 25 0 (.agg #[.int .i64 ln, .int .i64 ((i - st0) + 1)]) (by kernel_rfl) rfl (by kernel_rfl)) rfl ?_
                refine PL.take 9 133 (.agg #[.int .i64 k, .string (s.extract ((i).toNat) ((i + n).toNat)), .int .i64 ln, .int .i64 ((i - st0) + 1)]) (fun _ _ => by kernel_rfl) ?_
                refine PL.newSlice S18 134 1 [.int .i64 k, .string (s.extract ((i).toNat) ((i + n).toNat)), .int .i64 ln, .int .i64 ((i - st0) + 1)] 36 (by kernel_rfl) ?_
                intro b5 w12 S19
                refine PB.mk (S19.sub (.cons _ (.cons_cons _ (.cons _ (.cons_cons _ (.slnil)))))) ?_
                refine PL.append tkE S19 2 out (⟨k, (s.extract ((i).toNat) ((i + n).toNat)), ln, (i - st0) + 1⟩ : Tk) 135 23 (.agg #[.int .i64 0, .string ByteArray.empty, .int .i64 0, .int .i64 0]) 40 ⟨b5, 0, none⟩ 1 rfl (by kernel_rfl) (by kernel_rfl) (by kernel_rfl) (by kernel_rfl) (by decide) (box_cells (S19.nth 0 rfl)) (by kernel_rfl) (by kernel_rfl) (⟨by omega, by omega⟩) ?_
                intro ra3 rc3 w13 S20
                replace S20 : Sep w [box b5 [.int .i64 k, .string (s.extract ((i).toNat) ((i + n).toNat)), .int .i64 ln, .int .i64 ((i - st0) + 1)] 36, box b2 [.int .i64 ln, .int .i64 ((i - st0) + 1)] 25, rowOf tkE ra3 rc3 36 4 (out ++ [(⟨k, (s.extract ((i).toNat) ((i + n).toNat)), ln, (i - st0) + 1⟩ : Tk)]), box b1 [.int .i64 0, .int .i64 0] 25] w13 := S20
                have S21 : Sep w [box b2 [.int .i64 ln, .int .i64 ((i - st0) + 1)] 25, rowOf tkE ra3 rc3 36 4 (out ++ [(⟨k, (s.extract ((i).toNat) ((i + n).toNat)), ln, (i - st0) + 1⟩ : Tk)]), box b1 [.int .i64 0, .int .i64 0] 25] w13 := S20.erase 0
                clear S20
                refine PB.mk (S21.sub (.cons_cons _ (.cons _ (.cons_cons _ (.slnil))))) ?_
                refine PL.take 12 5 (.slice ra3 ((out ++ [(⟨k, (s.extract ((i).toNat) ((i + n).toNat)), ln, (i - st0) + 1⟩ : Tk)]).length) rc3) (fun _ _ => by kernel_rfl) ?_
                refine PL.done ?_
                refine J.run 0 (rRest K11_34) [(5, .slice ra3 ((out ++ [(⟨k, (s.extract ((i).toNat) ((i + n).toNat)), ln, (i - st0) + 1⟩ : Tk)]).length) rc3), (10, .int .i64 i), (7, .int .i64 st0), (6, .int .i64 ln), (3, .pointer (some ⟨b1, 0, none⟩)), (0, .string s), (9, .bool cm2), (13, .int .i64 n)] w13 (by kernel_rfl) ?_
                refine J.run 7 K11_35 [(138, .int .i64 (IntKind.wrap .i64 (i + n))), (8, .bool true), (5, .slice ra3 ((out ++ [(⟨k, (s.extract ((i).toNat) ((i + n).toNat)), ln, (i - st0) + 1⟩ : Tk)]).length) rc3), (7, .int .i64 st0), (6, .int .i64 ln), (3, .pointer (some ⟨b1, 0, none⟩)), (0, .string s), (9, .bool cm2)] w13 (by kernel_rfl) ?_
                refine J.head (.int .i64 (i + n)) (congrArg (Value.int .i64) (IntWalk.i64_in _ (by omega))) ?_
                refine J.run 4 K11_4 [(10, .int .i64 (i + n)), (8, .bool true), (5, .slice ra3 ((out ++ [(⟨k, (s.extract ((i).toNat) ((i + n).toNat)), ln, (i - st0) + 1⟩ : Tk)]).length) rc3), (7, .int .i64 st0), (6, .int .i64 ln), (3, .pointer (some ⟨b1, 0, none⟩)), (0, .string s), (9, .bool cm2)] w13 (by kernel_rfl) ?_
                have S22 : Sep w [rowOf tkE ra3 rc3 36 4 (out ++ [(⟨k, (s.extract ((i).toNat) ((i + n).toNat)), ln, (i - st0) + 1⟩ : Tk)]), box b1 [.int .i64 0, .int .i64 0] 25] w13 := S21.erase 0
                clear S21
                refine J.run 0 K11_4 [(10, .int .i64 (i + n)), (9, .bool cm2), (8, .bool true), (7, .int .i64 st0), (6, .int .i64 ln), (5, .slice ra3 ((out ++ [(⟨k, (s.extract ((i).toNat) ((i + n).toNat)), ln, (i - st0) + 1⟩ : Tk)]).length) rc3), (3, .pointer (some ⟨b1, 0, none⟩)), (0, .string s)] w13 (by kernel_rfl) ?_
                exact ih1 _ (show ((s.size : Int) + 1 - (i + n)).toNat < mm1 from by omega) ra3 rc3 (out ++ [(⟨k, (s.extract ((i).toNat) ((i + n).toNat)), ln, (i - st0) + 1⟩ : Tk)]) ln st0 true cm2 (i + n) w13 (by omega) (by omega) (by omega) (by omega) (by (try rw [List.length_append, List.length_singleton]); omega) (⟨fun _ => hJ.trans (by rw [decide_eq_true (show (0 : Int) < k by omega), Bool.or_true, addT_yes (by omega) h0 (by omega)]; congr 1; omega), fun h_ => by omega⟩) S22 rfl
              · skip
                refine J.head (.bool false) (congrArg Value.bool (decide_eq_false fk7)) ?_
                refine J.run 6 K11_36 [(138, .int .i64 (IntKind.wrap .i64 (i + n))), (8, .bool sm), (7, .int .i64 st0), (6, .int .i64 ln), (5, .slice ra out.length rc), (3, .pointer (some ⟨b1, 0, none⟩)), (0, .string s), (9, .bool cm2)] w10 (by kernel_rfl) ?_
                refine J.head (.int .i64 (i + n)) (congrArg (Value.int .i64) (IntWalk.i64_in _ (by omega))) ?_
                refine J.run 4 K11_4 [(10, .int .i64 (i + n)), (8, .bool sm), (7, .int .i64 st0), (6, .int .i64 ln), (5, .slice ra out.length rc), (3, .pointer (some ⟨b1, 0, none⟩)), (0, .string s), (9, .bool cm2)] w10 (by kernel_rfl) ?_
                have S23 : Sep w [rowOf tkE ra rc 36 4 out, box b1 [.int .i64 0, .int .i64 0] 25] w10 := S17.erase 0
                clear S17
                refine J.run 0 K11_4 [(10, .int .i64 (i + n)), (9, .bool cm2), (8, .bool sm), (7, .int .i64 st0), (6, .int .i64 ln), (5, .slice ra out.length rc), (3, .pointer (some ⟨b1, 0, none⟩)), (0, .string s)] w10 (by kernel_rfl) ?_
                exact ih1 _ (show ((s.size : Int) + 1 - (i + n)).toNat < mm1 from by omega) ra rc out ln st0 sm cm2 (i + n) w10 (by omega) (by omega) (by omega) (by omega) (by (try rw [List.length_append, List.length_singleton]); omega) (⟨fun _ => hJ.trans (by rw [show k = 0 by omega, show decide ((0 : Int) < 0) = false from rfl, Bool.or_false, addT_no]; congr 1; omega), fun h_ => by omega⟩) S23 rfl
            refine J.run 6 K11_37 [(56, .bool cm), (14, .int .i64 0), (13, .int .i64 1), (12, .int .u8 (byteAt s (i).toNat)), (11, .pointer (some ⟨b2, 0, none⟩)), (10, .int .i64 i), (9, .bool cm), (8, .bool sm), (7, .int .i64 st0), (6, .int .i64 ln), (5, .slice ra out.length rc), (3, .pointer (some ⟨b1, 0, none⟩)), (0, .string s)] w5 (by kernel_rfl) ?_
            rcases Bool.eq_false_or_eq_true cm with fk8 | fk8
            · skip
              refine J.head (.bool true) (congrArg Value.bool fk8) ?_
              refine J.run 6 K11_38 [(60, .bool (decide ((byteAt s (i).toNat) < 32))), (14, .int .i64 0), (13, .int .i64 1), (12, .int .u8 (byteAt s (i).toNat)), (11, .pointer (some ⟨b2, 0, none⟩)), (10, .int .i64 i), (9, .bool cm), (8, .bool sm), (7, .int .i64 st0), (6, .int .i64 ln), (5, .slice ra out.length rc), (3, .pointer (some ⟨b1, 0, none⟩)), (0, .string s)] w5 (by kernel_rfl) ?_
              by_cases fk9 : (byteAt s (i).toNat) < 32
              · skip
                refine J.head (.bool true) (congrArg Value.bool (decide_eq_true fk9)) ?_
                refine J.run 4 K11_39 [(64, .bool ((byteAt s (i).toNat) != 9)), (14, .int .i64 0), (13, .int .i64 1), (12, .int .u8 (byteAt s (i).toNat)), (11, .pointer (some ⟨b2, 0, none⟩)), (10, .int .i64 i), (9, .bool cm), (8, .bool sm), (7, .int .i64 st0), (6, .int .i64 ln), (5, .slice ra out.length rc), (3, .pointer (some ⟨b1, 0, none⟩)), (0, .string s)] w5 (by kernel_rfl) ?_
                by_cases fk10 : (byteAt s (i).toNat) = 9
                · skip
                  refine J.head (.bool false) (congrArg Value.bool (bne_eq_false_iff_eq.2 fk10)) ?_
                  refine J.run 4 K11_40 [(67, .bool (decide ((byteAt s (i).toNat) > 126))), (14, .int .i64 0), (13, .int .i64 1), (11, .pointer (some ⟨b2, 0, none⟩)), (10, .int .i64 i), (9, .bool cm), (8, .bool sm), (7, .int .i64 st0), (6, .int .i64 ln), (5, .slice ra out.length rc), (3, .pointer (some ⟨b1, 0, none⟩)), (0, .string s)] w5 (by kernel_rfl) ?_
                  by_cases fk11 : (byteAt s (i).toNat) > 126
                  · skip
                    refine J.head (.bool true) (congrArg Value.bool (decide_eq_true fk11)) ?_
                    refine J.run 2 K11_41 [(11, .pointer (some ⟨b2, 0, none⟩)), (3, .pointer (some ⟨b1, 0, none⟩))] w5 (by kernel_rfl) ?_
                    refine J.drawPlan (fun w_ => Sep w [box b2 [.int .i64 ln, .int .i64 ((i - st0) + 1)] 25, rowOf tkE ra rc 36 4 out] w_) [(0, true), (1, true), (2, false), (3, true)] S6 Tryd.mixed (by kernel_rfl) (planOK_of (T := [(0, some 68, 2048), (0, some 2, 0), (3, none, 295147905179352825864), (7, some 4, 0)]) (by kernel_rfl) (by kernel_rfl)) ?_
                    intro w14 S24
                    refine PB.mk (S24.sub (.cons_cons _ (.cons_cons _ (.cons _ (.slnil))))) ?_
                    refine PL.takeOK 0 (fun w_ S_ => OK.ldBox S_ 0 68 25 0 (.agg #[.int .i64 ln, .int .i64 ((i - st0) + 1)]) (by kernel_rfl) rfl (by kernel_rfl)) rfl ?_
                    refine PL.take 1 2 (.slice none 0 0) (fun _ _ => by kernel_rfl) ?_
                    refine PL.stBox S24 2 25 0 (.agg #[.int .i64 ln, .int .i64 ((i - st0) + 1)]) [.int .i64 ln, .int .i64 ((i - st0) + 1)] [box b2 [.int .i64 ln, .int .i64 ((i - st0) + 1)] 25, rowOf tkE ra rc 36 4 out, box b1 [.int .i64 ln, .int .i64 ((i - st0) + 1)] 25] (by kernel_rfl) rfl (by kernel_rfl) (by kernel_rfl) rfl ?_
                    intro w15 S25
                    refine PB.mk (S25.sub (.cons_cons _ (.cons_cons _ (.cons _ (.slnil))))) ?_
                    refine PL.take 3 4 (.int .i64 3) (fun _ _ => by kernel_rfl) ?_
                    refine PL.done ?_
                    refine J.run 0 (rRest K11_41) [(4, .int .i64 3), (2, .slice none 0 0), (3, .pointer (some ⟨b1, 0, none⟩))] w15 (by kernel_rfl) ?_
                    refine J.ret Tryd.f11 [.slice none 0 0, .agg #[.int .i64 ln, .int .i64 ((i - st0) + 1)], .int .i64 3] Tryd.func11 ⟨by kernel_rfl, ⟨⟨b1, 0, none⟩, by kernel_rfl, ldV_run (S25.nth 2 rfl) (by kernel_rfl)⟩, by kernel_rfl, trivial⟩ ?_
                    refine hR _ _ ?_
                    have e_ : tkF s = ⟨[], ln, (i - st0) + 1, 3⟩ := (hQ.1 (by omega)).trans (by rw [fk8]; exact rx_bad hr hc (by omega) (by omega))
                    exact ⟨none, 0, by rw [e_]; rfl, by rw [e_]; exact S25.nil.nilRow 36 4⟩
                  · skip
                    refine J.head (.bool false) (congrArg Value.bool (decide_eq_false fk11)) ?_
                    refine J.run 3 K11_42 [(9, .bool cm), (14, .int .i64 0), (13, .int .i64 1), (11, .pointer (some ⟨b2, 0, none⟩)), (10, .int .i64 i), (8, .bool sm), (7, .int .i64 st0), (6, .int .i64 ln), (5, .slice ra out.length rc), (3, .pointer (some ⟨b1, 0, none⟩)), (0, .string s)] w5 (by kernel_rfl) ?_
                    refine J.head (.bool true) (congrArg Value.bool fk8) ?_
                    refine J.run 0 K11_32 [(11, .pointer (some ⟨b2, 0, none⟩)), (10, .int .i64 i), (8, .bool sm), (7, .int .i64 st0), (6, .int .i64 ln), (5, .slice ra out.length rc), (3, .pointer (some ⟨b1, 0, none⟩)), (0, .string s), (9, .bool true), (13, .int .i64 1), (14, .int .i64 0)] w5 (by kernel_rfl) ?_
                    exact X1 true 1 0 w5 (⟨by omega, by omega⟩) (by omega) ((hQ.1 (by omega)).trans (by rw [fk8]; exact jx_comment hr hc hr2 (by omega) (by omega))) S6
                · skip
                  refine J.head (.bool true) (congrArg Value.bool (bne_iff_ne.2 fk10)) ?_
                  refine J.run 6 K11_43 [(11, .pointer (some ⟨b2, 0, none⟩)), (3, .pointer (some ⟨b1, 0, none⟩))] w5 (by kernel_rfl) ?_
                  refine J.drawPlan (fun w_ => Sep w [box b2 [.int .i64 ln, .int .i64 ((i - st0) + 1)] 25, rowOf tkE ra rc 36 4 out] w_) [(0, true), (1, true), (2, false), (3, true)] S6 Tryd.mixed (by kernel_rfl) (planOK_of (T := [(0, some 68, 2048), (0, some 2, 0), (3, none, 295147905179352825864), (7, some 4, 0)]) (by kernel_rfl) (by kernel_rfl)) ?_
                  intro w16 S26
                  refine PB.mk (S26.sub (.cons_cons _ (.cons_cons _ (.cons _ (.slnil))))) ?_
                  refine PL.takeOK 0 (fun w_ S_ => OK.ldBox S_ 0 68 25 0 (.agg #[.int .i64 ln, .int .i64 ((i - st0) + 1)]) (by kernel_rfl) rfl (by kernel_rfl)) rfl ?_
                  refine PL.take 1 2 (.slice none 0 0) (fun _ _ => by kernel_rfl) ?_
                  refine PL.stBox S26 2 25 0 (.agg #[.int .i64 ln, .int .i64 ((i - st0) + 1)]) [.int .i64 ln, .int .i64 ((i - st0) + 1)] [box b2 [.int .i64 ln, .int .i64 ((i - st0) + 1)] 25, rowOf tkE ra rc 36 4 out, box b1 [.int .i64 ln, .int .i64 ((i - st0) + 1)] 25] (by kernel_rfl) rfl (by kernel_rfl) (by kernel_rfl) rfl ?_
                  intro w17 S27
                  refine PB.mk (S27.sub (.cons_cons _ (.cons_cons _ (.cons _ (.slnil))))) ?_
                  refine PL.take 3 4 (.int .i64 3) (fun _ _ => by kernel_rfl) ?_
                  refine PL.done ?_
                  refine J.run 0 (rRest K11_43) [(4, .int .i64 3), (2, .slice none 0 0), (3, .pointer (some ⟨b1, 0, none⟩))] w17 (by kernel_rfl) ?_
                  refine J.ret Tryd.f11 [.slice none 0 0, .agg #[.int .i64 ln, .int .i64 ((i - st0) + 1)], .int .i64 3] Tryd.func11 ⟨by kernel_rfl, ⟨⟨b1, 0, none⟩, by kernel_rfl, ldV_run (S27.nth 2 rfl) (by kernel_rfl)⟩, by kernel_rfl, trivial⟩ ?_
                  refine hR _ _ ?_
                  have e_ : tkF s = ⟨[], ln, (i - st0) + 1, 3⟩ := (hQ.1 (by omega)).trans (by rw [fk8]; exact rx_bad hr hc (by omega) (by omega))
                  exact ⟨none, 0, by rw [e_]; rfl, by rw [e_]; exact S27.nil.nilRow 36 4⟩
              · skip
                refine J.head (.bool false) (congrArg Value.bool (decide_eq_false fk9)) ?_
                refine J.run 8 K11_44 [(67, .bool (decide ((byteAt s (i).toNat) > 126))), (14, .int .i64 0), (13, .int .i64 1), (11, .pointer (some ⟨b2, 0, none⟩)), (10, .int .i64 i), (9, .bool cm), (8, .bool sm), (7, .int .i64 st0), (6, .int .i64 ln), (5, .slice ra out.length rc), (3, .pointer (some ⟨b1, 0, none⟩)), (0, .string s)] w5 (by kernel_rfl) ?_
                by_cases fk12 : (byteAt s (i).toNat) > 126
                · skip
                  refine J.head (.bool true) (congrArg Value.bool (decide_eq_true fk12)) ?_
                  refine J.run 2 K11_45 [(11, .pointer (some ⟨b2, 0, none⟩)), (3, .pointer (some ⟨b1, 0, none⟩))] w5 (by kernel_rfl) ?_
                  refine J.drawPlan (fun w_ => Sep w [box b2 [.int .i64 ln, .int .i64 ((i - st0) + 1)] 25, rowOf tkE ra rc 36 4 out] w_) [(0, true), (1, true), (2, false), (3, true)] S6 Tryd.mixed (by kernel_rfl) (planOK_of (T := [(0, some 68, 2048), (0, some 2, 0), (3, none, 295147905179352825864), (7, some 4, 0)]) (by kernel_rfl) (by kernel_rfl)) ?_
                  intro w18 S28
                  refine PB.mk (S28.sub (.cons_cons _ (.cons_cons _ (.cons _ (.slnil))))) ?_
                  refine PL.takeOK 0 (fun w_ S_ => OK.ldBox S_ 0 68 25 0 (.agg #[.int .i64 ln, .int .i64 ((i - st0) + 1)]) (by kernel_rfl) rfl (by kernel_rfl)) rfl ?_
                  refine PL.take 1 2 (.slice none 0 0) (fun _ _ => by kernel_rfl) ?_
                  refine PL.stBox S28 2 25 0 (.agg #[.int .i64 ln, .int .i64 ((i - st0) + 1)]) [.int .i64 ln, .int .i64 ((i - st0) + 1)] [box b2 [.int .i64 ln, .int .i64 ((i - st0) + 1)] 25, rowOf tkE ra rc 36 4 out, box b1 [.int .i64 ln, .int .i64 ((i - st0) + 1)] 25] (by kernel_rfl) rfl (by kernel_rfl) (by kernel_rfl) rfl ?_
                  intro w19 S29
                  refine PB.mk (S29.sub (.cons_cons _ (.cons_cons _ (.cons _ (.slnil))))) ?_
                  refine PL.take 3 4 (.int .i64 3) (fun _ _ => by kernel_rfl) ?_
                  refine PL.done ?_
                  refine J.run 0 (rRest K11_45) [(4, .int .i64 3), (2, .slice none 0 0), (3, .pointer (some ⟨b1, 0, none⟩))] w19 (by kernel_rfl) ?_
                  refine J.ret Tryd.f11 [.slice none 0 0, .agg #[.int .i64 ln, .int .i64 ((i - st0) + 1)], .int .i64 3] Tryd.func11 ⟨by kernel_rfl, ⟨⟨b1, 0, none⟩, by kernel_rfl, ldV_run (S29.nth 2 rfl) (by kernel_rfl)⟩, by kernel_rfl, trivial⟩ ?_
                  refine hR _ _ ?_
                  have e_ : tkF s = ⟨[], ln, (i - st0) + 1, 3⟩ := (hQ.1 (by omega)).trans (by rw [fk8]; exact rx_bad hr hc (by omega) (by omega))
                  exact ⟨none, 0, by rw [e_]; rfl, by rw [e_]; exact S29.nil.nilRow 36 4⟩
                · skip
                  refine J.head (.bool false) (congrArg Value.bool (decide_eq_false fk12)) ?_
                  refine J.run 3 K11_46 [(9, .bool cm), (14, .int .i64 0), (13, .int .i64 1), (11, .pointer (some ⟨b2, 0, none⟩)), (10, .int .i64 i), (8, .bool sm), (7, .int .i64 st0), (6, .int .i64 ln), (5, .slice ra out.length rc), (3, .pointer (some ⟨b1, 0, none⟩)), (0, .string s)] w5 (by kernel_rfl) ?_
                  refine J.head (.bool true) (congrArg Value.bool fk8) ?_
                  refine J.run 0 K11_32 [(11, .pointer (some ⟨b2, 0, none⟩)), (10, .int .i64 i), (8, .bool sm), (7, .int .i64 st0), (6, .int .i64 ln), (5, .slice ra out.length rc), (3, .pointer (some ⟨b1, 0, none⟩)), (0, .string s), (9, .bool true), (13, .int .i64 1), (14, .int .i64 0)] w5 (by kernel_rfl) ?_
                  exact X1 true 1 0 w5 (⟨by omega, by omega⟩) (by omega) ((hQ.1 (by omega)).trans (by rw [fk8]; exact jx_comment hr hc hr2 (by omega) (by omega))) S6
            · skip
              refine J.head (.bool false) (congrArg Value.bool fk8) ?_
              refine J.run 6 K11_47 [(72, .bool ((byteAt s (i).toNat) == 32)), (14, .int .i64 0), (13, .int .i64 1), (12, .int .u8 (byteAt s (i).toNat)), (11, .pointer (some ⟨b2, 0, none⟩)), (10, .int .i64 i), (9, .bool cm), (8, .bool sm), (7, .int .i64 st0), (6, .int .i64 ln), (5, .slice ra out.length rc), (3, .pointer (some ⟨b1, 0, none⟩)), (0, .string s)] w5 (by kernel_rfl) ?_
              by_cases fk13 : (byteAt s (i).toNat) = 32
              · skip
                refine J.head (.bool true) (congrArg Value.bool (beq_iff_eq.2 fk13)) ?_
                refine J.run 8 K11_48 [(9, .bool cm), (14, .int .i64 0), (13, .int .i64 1), (11, .pointer (some ⟨b2, 0, none⟩)), (10, .int .i64 i), (8, .bool sm), (7, .int .i64 st0), (6, .int .i64 ln), (5, .slice ra out.length rc), (3, .pointer (some ⟨b1, 0, none⟩)), (0, .string s)] w5 (by kernel_rfl) ?_
                refine J.head (.bool false) (congrArg Value.bool fk8) ?_
                refine J.run 0 K11_32 [(11, .pointer (some ⟨b2, 0, none⟩)), (10, .int .i64 i), (8, .bool sm), (7, .int .i64 st0), (6, .int .i64 ln), (5, .slice ra out.length rc), (3, .pointer (some ⟨b1, 0, none⟩)), (0, .string s), (9, .bool false), (13, .int .i64 1), (14, .int .i64 0)] w5 (by kernel_rfl) ?_
                exact X1 false 1 0 w5 (⟨by omega, by omega⟩) (by omega) ((hQ.1 (by omega)).trans (by rw [fk8]; exact rx_tok h0 hr hc (by omega) (by omega) (k := 0) (n := 1) (tok_blank (by rw [hc]; omega)) (by omega))) S6
              · skip
                refine J.head (.bool false) (congrArg Value.bool (beq_eq_false_iff_ne.2 fk13)) ?_
                refine J.run 5 K11_49 [(69, .bool ((byteAt s (i).toNat) == 9)), (14, .int .i64 0), (13, .int .i64 1), (12, .int .u8 (byteAt s (i).toNat)), (11, .pointer (some ⟨b2, 0, none⟩)), (10, .int .i64 i), (9, .bool cm), (8, .bool sm), (7, .int .i64 st0), (6, .int .i64 ln), (5, .slice ra out.length rc), (3, .pointer (some ⟨b1, 0, none⟩)), (0, .string s)] w5 (by kernel_rfl) ?_
                by_cases fk14 : (byteAt s (i).toNat) = 9
                · skip
                  refine J.head (.bool true) (congrArg Value.bool (beq_iff_eq.2 fk14)) ?_
                  refine J.run 3 K11_50 [(9, .bool cm), (14, .int .i64 0), (13, .int .i64 1), (11, .pointer (some ⟨b2, 0, none⟩)), (10, .int .i64 i), (8, .bool sm), (7, .int .i64 st0), (6, .int .i64 ln), (5, .slice ra out.length rc), (3, .pointer (some ⟨b1, 0, none⟩)), (0, .string s)] w5 (by kernel_rfl) ?_
                  refine J.head (.bool false) (congrArg Value.bool fk8) ?_
                  refine J.run 0 K11_32 [(11, .pointer (some ⟨b2, 0, none⟩)), (10, .int .i64 i), (8, .bool sm), (7, .int .i64 st0), (6, .int .i64 ln), (5, .slice ra out.length rc), (3, .pointer (some ⟨b1, 0, none⟩)), (0, .string s), (9, .bool false), (13, .int .i64 1), (14, .int .i64 0)] w5 (by kernel_rfl) ?_
                  exact X1 false 1 0 w5 (⟨by omega, by omega⟩) (by omega) ((hQ.1 (by omega)).trans (by rw [fk8]; exact rx_tok h0 hr hc (by omega) (by omega) (k := 0) (n := 1) (tok_blank (by rw [hc]; omega)) (by omega))) S6
                · skip
                  refine J.head (.bool false) (congrArg Value.bool (beq_eq_false_iff_ne.2 fk14)) ?_
                  refine J.run 7 K11_51 [(76, .bool ((byteAt s (i).toNat) == 35)), (14, .int .i64 0), (13, .int .i64 1), (12, .int .u8 (byteAt s (i).toNat)), (11, .pointer (some ⟨b2, 0, none⟩)), (10, .int .i64 i), (9, .bool cm), (8, .bool sm), (7, .int .i64 st0), (6, .int .i64 ln), (5, .slice ra out.length rc), (3, .pointer (some ⟨b1, 0, none⟩)), (0, .string s)] w5 (by kernel_rfl) ?_
                  by_cases fk15 : (byteAt s (i).toNat) = 35
                  · skip
                    refine J.head (.bool true) (congrArg Value.bool (beq_iff_eq.2 fk15)) ?_
                    refine J.run 5 K11_32 [(11, .pointer (some ⟨b2, 0, none⟩)), (10, .int .i64 i), (8, .bool sm), (7, .int .i64 st0), (6, .int .i64 ln), (5, .slice ra out.length rc), (3, .pointer (some ⟨b1, 0, none⟩)), (0, .string s), (9, .bool true), (13, .int .i64 1), (14, .int .i64 0)] w5 (by kernel_rfl) ?_
                    exact X1 true 1 0 w5 (⟨by omega, by omega⟩) (by omega) ((hQ.1 (by omega)).trans (by rw [fk8]; exact jx_hash hr hc hr2 (by omega))) S6
                  · skip
                    refine J.head (.bool false) (congrArg Value.bool (beq_eq_false_iff_ne.2 fk15)) ?_
                    refine J.run 4 K11_52 [(80, .int .u8 (byteAt s (i).toNat)), (13, .int .i64 1), (12, .int .u8 (byteAt s (i).toNat)), (11, .pointer (some ⟨b2, 0, none⟩)), (10, .int .i64 i), (9, .bool cm), (8, .bool sm), (7, .int .i64 st0), (6, .int .i64 ln), (5, .slice ra out.length rc), (3, .pointer (some ⟨b1, 0, none⟩)), (0, .string s)] w5 (by kernel_rfl) ?_
                    refine J.callF 81 35 #[.int .u8 (byteAt s (i).toNat)] hb35 (by kernel_rfl) (rletter_any (byteAt s (i).toNat) _) ?_
                    rintro _ w20 ⟨rfl, T1⟩
                    have S30 : Sep w [box b2 [.int .i64 ln, .int .i64 ((i - st0) + 1)] 25, rowOf tkE ra rc 36 4 out, box b1 [.int .i64 0, .int .i64 0] 25] w20 := S6.trans T1
                    clear T1 S6
                    refine J.run 2 K11_53 [(79, .bool (letB (byteAt s (i).toNat))), (13, .int .i64 1), (12, .int .u8 (byteAt s (i).toNat)), (11, .pointer (some ⟨b2, 0, none⟩)), (10, .int .i64 i), (9, .bool cm), (8, .bool sm), (7, .int .i64 st0), (6, .int .i64 ln), (5, .slice ra out.length rc), (3, .pointer (some ⟨b1, 0, none⟩)), (0, .string s)] w20 (by kernel_rfl) ?_
                    rcases Bool.eq_false_or_eq_true (letB (byteAt s (i).toNat)) with fk16 | fk16
                    · skip
                      refine J.head (.bool true) (congrArg Value.bool fk16) ?_
                      refine J.run 5 K11_54 [(83, .int .i64 i), (82, .string s), (11, .pointer (some ⟨b2, 0, none⟩)), (10, .int .i64 i), (9, .bool cm), (8, .bool sm), (7, .int .i64 st0), (6, .int .i64 ln), (5, .slice ra out.length rc), (3, .pointer (some ⟨b1, 0, none⟩)), (0, .string s)] w20 (by kernel_rfl) ?_
                      refine J.ok (OK.sliceT 84 9 s (some (.int .i64 i)) none ((i).toNat) s.size (by kernel_rfl) (by kernel_rfl) (.inr ⟨_, _, rfl, by omega⟩) (.inl ⟨rfl, rfl⟩) (by first | omega | (simp; omega)) (by first | omega | (simp; omega))) ?_
                      have := size_extract s (i := (i).toNat) (j := s.size) (by first | omega | (simp; omega))
                      obtain ⟨hwd, hw1, hw2⟩ := ref_word (s := s) (i := i) hr (by rw [hc]; exact fk16)
                      refine J.callF 85 36 #[.string (s.extract ((i).toNat) s.size)] hb36 (by kernel_rfl) (rword_any (s.extract ((i).toNat) s.size) _ (by omega)) ?_
                      rintro _ w21 ⟨rfl, T2⟩
                      have S31 : Sep w [box b2 [.int .i64 ln, .int .i64 ((i - st0) + 1)] 25, rowOf tkE ra rc 36 4 out, box b1 [.int .i64 0, .int .i64 0] 25] w21 := S30.trans T2
                      clear T2 S30
                      refine J.run 8 K11_55 [(87, .bool (decide ((wordF (ls (s.extract ((i).toNat) s.size))) > 24))), (14, .int .i64 1), (13, .int .i64 (wordF (ls (s.extract ((i).toNat) s.size)))), (11, .pointer (some ⟨b2, 0, none⟩)), (10, .int .i64 i), (9, .bool cm), (8, .bool sm), (7, .int .i64 st0), (6, .int .i64 ln), (5, .slice ra out.length rc), (3, .pointer (some ⟨b1, 0, none⟩)), (0, .string s)] w21 (by kernel_rfl) ?_
                      by_cases fk17 : (wordF (ls (s.extract ((i).toNat) s.size))) > 24
                      · skip
                        refine J.head (.bool true) (congrArg Value.bool (decide_eq_true fk17)) ?_
                        refine J.run 2 K11_56 [(11, .pointer (some ⟨b2, 0, none⟩)), (3, .pointer (some ⟨b1, 0, none⟩))] w21 (by kernel_rfl) ?_
                        refine J.drawPlan (fun w_ => Sep w [box b2 [.int .i64 ln, .int .i64 ((i - st0) + 1)] 25, rowOf tkE ra rc 36 4 out] w_) [(0, true), (1, true), (2, false), (3, true)] S31 Tryd.mixed (by kernel_rfl) (planOK_of (T := [(0, some 88, 2048), (0, some 2, 0), (3, none, 309485009821345068724781064), (7, some 4, 0)]) (by kernel_rfl) (by kernel_rfl)) ?_
                        intro w22 S32
                        refine PB.mk (S32.sub (.cons_cons _ (.cons_cons _ (.cons _ (.slnil))))) ?_
                        refine PL.takeOK 0 (fun w_ S_ => OK.ldBox S_ 0 88 25 0 (.agg #[.int .i64 ln, .int .i64 ((i - st0) + 1)]) (by kernel_rfl) rfl (by kernel_rfl)) rfl ?_
                        refine PL.take 1 2 (.slice none 0 0) (fun _ _ => by kernel_rfl) ?_
                        refine PL.stBox S32 2 25 0 (.agg #[.int .i64 ln, .int .i64 ((i - st0) + 1)]) [.int .i64 ln, .int .i64 ((i - st0) + 1)] [box b2 [.int .i64 ln, .int .i64 ((i - st0) + 1)] 25, rowOf tkE ra rc 36 4 out, box b1 [.int .i64 ln, .int .i64 ((i - st0) + 1)] 25] (by kernel_rfl) rfl (by kernel_rfl) (by kernel_rfl) rfl ?_
                        intro w23 S33
                        refine PB.mk (S33.sub (.cons_cons _ (.cons_cons _ (.cons _ (.slnil))))) ?_
                        refine PL.take 3 4 (.int .i64 5) (fun _ _ => by kernel_rfl) ?_
                        refine PL.done ?_
                        refine J.run 0 (rRest K11_56) [(4, .int .i64 5), (2, .slice none 0 0), (3, .pointer (some ⟨b1, 0, none⟩))] w23 (by kernel_rfl) ?_
                        refine J.ret Tryd.f11 [.slice none 0 0, .agg #[.int .i64 ln, .int .i64 ((i - st0) + 1)], .int .i64 5] Tryd.func11 ⟨by kernel_rfl, ⟨⟨b1, 0, none⟩, by kernel_rfl, ldV_run (S33.nth 2 rfl) (by kernel_rfl)⟩, by kernel_rfl, trivial⟩ ?_
                        refine hR _ _ ?_
                        have e_ : tkF s = ⟨[], ln, (i - st0) + 1, 5⟩ := (hQ.1 (by omega)).trans (by rw [fk8]; exact rx_err hr hc (by omega) (by omega) ((tok_word (by rw [hc]; omega) (by rw [hc]; exact fk16)).trans (by rw [if_pos (by omega)])) (by omega))
                        exact ⟨none, 0, by rw [e_]; rfl, by rw [e_]; exact S33.nil.nilRow 36 4⟩
                      · skip
                        refine J.head (.bool false) (congrArg Value.bool (decide_eq_false fk17)) ?_
                        refine J.run 3 K11_57 [(9, .bool cm), (14, .int .i64 1), (13, .int .i64 (wordF (ls (s.extract ((i).toNat) s.size)))), (11, .pointer (some ⟨b2, 0, none⟩)), (10, .int .i64 i), (8, .bool sm), (7, .int .i64 st0), (6, .int .i64 ln), (5, .slice ra out.length rc), (3, .pointer (some ⟨b1, 0, none⟩)), (0, .string s)] w21 (by kernel_rfl) ?_
                        refine J.head (.bool false) (congrArg Value.bool fk8) ?_
                        refine J.run 0 K11_32 [(11, .pointer (some ⟨b2, 0, none⟩)), (10, .int .i64 i), (8, .bool sm), (7, .int .i64 st0), (6, .int .i64 ln), (5, .slice ra out.length rc), (3, .pointer (some ⟨b1, 0, none⟩)), (0, .string s), (9, .bool false), (13, .int .i64 (wordF (ls (s.extract ((i).toNat) s.size)))), (14, .int .i64 1)] w21 (by kernel_rfl) ?_
                        exact X1 false (wordF (ls (s.extract ((i).toNat) s.size))) 1 w21 (⟨by omega, by omega⟩) (by omega) ((hQ.1 (by omega)).trans (by rw [fk8]; exact rx_tok h0 hr hc (by omega) (by omega) (k := 1) (n := (wordF (ls (s.extract ((i).toNat) s.size)))) ((tok_word (by rw [hc]; omega) (by rw [hc]; exact fk16)).trans (by rw [if_neg (by omega)]; congr 2; omega)) (by omega))) S31
                    · skip
                      refine J.head (.bool false) (congrArg Value.bool fk16) ?_
                      refine J.run 4 K11_58 [(90, .int .u8 (byteAt s (i).toNat)), (13, .int .i64 1), (12, .int .u8 (byteAt s (i).toNat)), (11, .pointer (some ⟨b2, 0, none⟩)), (10, .int .i64 i), (9, .bool cm), (8, .bool sm), (7, .int .i64 st0), (6, .int .i64 ln), (5, .slice ra out.length rc), (3, .pointer (some ⟨b1, 0, none⟩)), (0, .string s)] w20 (by kernel_rfl) ?_
                      refine J.callF 91 37 #[.int .u8 (byteAt s (i).toNat)] hb37 (by kernel_rfl) (rdigit_any (byteAt s (i).toNat) _) ?_
                      rintro _ w24 ⟨rfl, T3⟩
                      have S34 : Sep w [box b2 [.int .i64 ln, .int .i64 ((i - st0) + 1)] 25, rowOf tkE ra rc 36 4 out, box b1 [.int .i64 0, .int .i64 0] 25] w24 := S30.trans T3
                      clear T3 S30
                      refine J.run 1 K11_59 [(92, .bool (digB (byteAt s (i).toNat))), (13, .int .i64 1), (12, .int .u8 (byteAt s (i).toNat)), (11, .pointer (some ⟨b2, 0, none⟩)), (10, .int .i64 i), (9, .bool cm), (8, .bool sm), (7, .int .i64 st0), (6, .int .i64 ln), (5, .slice ra out.length rc), (3, .pointer (some ⟨b1, 0, none⟩)), (0, .string s)] w24 (by kernel_rfl) ?_
                      rcases Bool.eq_false_or_eq_true (digB (byteAt s (i).toNat)) with fk18 | fk18
                      · skip
                        refine J.head (.bool true) (congrArg Value.bool fk18) ?_
                        refine J.run 10 K11_60 [(97, .int .i64 i), (96, .string s), (11, .pointer (some ⟨b2, 0, none⟩)), (10, .int .i64 i), (9, .bool cm), (8, .bool sm), (7, .int .i64 st0), (6, .int .i64 ln), (5, .slice ra out.length rc), (3, .pointer (some ⟨b1, 0, none⟩)), (0, .string s)] w24 (by kernel_rfl) ?_
                        refine J.ok (OK.sliceT 98 9 s (some (.int .i64 i)) none ((i).toNat) s.size (by kernel_rfl) (by kernel_rfl) (.inr ⟨_, _, rfl, by omega⟩) (.inl ⟨rfl, rfl⟩) (by first | omega | (simp; omega)) (by first | omega | (simp; omega))) ?_
                        have := size_extract s (i := (i).toNat) (j := s.size) (by first | omega | (simp; omega))
                        obtain ⟨hdv, hdv0, hdl⟩ := ref_digits (s := s) (i := i) hr
                        refine J.callF 99 38 #[.string (s.extract ((i).toNat) s.size)] hb38 (by kernel_rfl) (rdigits_any (s.extract ((i).toNat) s.size) _ (by omega)) ?_
                        rintro _ w25 ⟨rfl, T4⟩
                        have S35 : Sep w [box b2 [.int .i64 ln, .int .i64 ((i - st0) + 1)] 25, rowOf tkE ra rc 36 4 out, box b1 [.int .i64 0, .int .i64 0] 25] w25 := S34.trans T4
                        clear T4 S34
                        refine J.run 9 K11_61 [(101, .bool ((digitsF (ls (s.extract ((i).toNat) s.size))) == 0)), (14, .int .i64 2), (13, .int .i64 (digitsF (ls (s.extract ((i).toNat) s.size)))), (11, .pointer (some ⟨b2, 0, none⟩)), (10, .int .i64 i), (9, .bool cm), (8, .bool sm), (7, .int .i64 st0), (6, .int .i64 ln), (5, .slice ra out.length rc), (3, .pointer (some ⟨b1, 0, none⟩)), (0, .string s)] w25 (by kernel_rfl) ?_
                        by_cases fk19 : (digitsF (ls (s.extract ((i).toNat) s.size))) = 0
                        · skip
                          refine J.head (.bool true) (congrArg Value.bool (beq_iff_eq.2 fk19)) ?_
                          have hn0 : numB (c :: r) = false := by cases h_ : numB (c :: r) with | false => rfl | true => (have := hdv h_; omega)
                          refine J.run 2 K11_62 [(11, .pointer (some ⟨b2, 0, none⟩)), (3, .pointer (some ⟨b1, 0, none⟩))] w25 (by kernel_rfl) ?_
                          refine J.drawPlan (fun w_ => Sep w [box b2 [.int .i64 ln, .int .i64 ((i - st0) + 1)] 25, rowOf tkE ra rc 36 4 out] w_) [(0, true), (1, true), (2, false), (3, true)] S35 Tryd.mixed (by kernel_rfl) (planOK_of (T := [(0, some 102, 2048), (0, some 2, 0), (3, none, 5070602400912917605986812821512), (7, some 4, 0)]) (by kernel_rfl) (by kernel_rfl)) ?_
                          intro w26 S36
                          refine PB.mk (S36.sub (.cons_cons _ (.cons_cons _ (.cons _ (.slnil))))) ?_
                          refine PL.takeOK 0 (fun w_ S_ => OK.ldBox S_ 0 102 25 0 (.agg #[.int .i64 ln, .int .i64 ((i - st0) + 1)]) (by kernel_rfl) rfl (by kernel_rfl)) rfl ?_
                          refine PL.take 1 2 (.slice none 0 0) (fun _ _ => by kernel_rfl) ?_
                          refine PL.stBox S36 2 25 0 (.agg #[.int .i64 ln, .int .i64 ((i - st0) + 1)]) [.int .i64 ln, .int .i64 ((i - st0) + 1)] [box b2 [.int .i64 ln, .int .i64 ((i - st0) + 1)] 25, rowOf tkE ra rc 36 4 out, box b1 [.int .i64 ln, .int .i64 ((i - st0) + 1)] 25] (by kernel_rfl) rfl (by kernel_rfl) (by kernel_rfl) rfl ?_
                          intro w27 S37
                          refine PB.mk (S37.sub (.cons_cons _ (.cons_cons _ (.cons _ (.slnil))))) ?_
                          refine PL.take 3 4 (.int .i64 3) (fun _ _ => by kernel_rfl) ?_
                          refine PL.done ?_
                          refine J.run 0 (rRest K11_62) [(4, .int .i64 3), (2, .slice none 0 0), (3, .pointer (some ⟨b1, 0, none⟩))] w27 (by kernel_rfl) ?_
                          refine J.ret Tryd.f11 [.slice none 0 0, .agg #[.int .i64 ln, .int .i64 ((i - st0) + 1)], .int .i64 3] Tryd.func11 ⟨by kernel_rfl, ⟨⟨b1, 0, none⟩, by kernel_rfl, ldV_run (S37.nth 2 rfl) (by kernel_rfl)⟩, by kernel_rfl, trivial⟩ ?_
                          refine hR _ _ ?_
                          have e_ : tkF s = ⟨[], ln, (i - st0) + 1, 3⟩ := (hQ.1 (by omega)).trans (by rw [fk8]; exact rx_err hr hc (by omega) (by omega) (ref_dash (by rw [hc]; omega) (by rw [hc]; exact fk16) hn0 (by rw [hc]; first | exact .inl fk18 | exact .inr (by omega))) (by omega))
                          exact ⟨none, 0, by rw [e_]; rfl, by rw [e_]; exact S37.nil.nilRow 36 4⟩
                        · skip
                          refine J.head (.bool false) (congrArg Value.bool (beq_eq_false_iff_ne.2 fk19)) ?_
                          have hn1 : numB (c :: r) = true := by cases h_ : numB (c :: r) with | true => rfl | false => exact absurd (hdv0 h_) fk19
                          have hnn := hdv hn1
                          refine J.run 3 K11_63 [(14, .int .i64 2), (13, .int .i64 (digitsF (ls (s.extract ((i).toNat) s.size)))), (11, .pointer (some ⟨b2, 0, none⟩)), (10, .int .i64 i), (9, .bool cm), (8, .bool sm), (7, .int .i64 st0), (6, .int .i64 ln), (5, .slice ra out.length rc), (3, .pointer (some ⟨b1, 0, none⟩)), (0, .string s)] w25 (by kernel_rfl) ?_
                          refine J.drawPlan (fun w_ => Sep w [box b2 [.int .i64 ln, .int .i64 ((i - st0) + 1)] 25, rowOf tkE ra rc 36 4 out, box b1 [.int .i64 0, .int .i64 0] 25] w_) [(0, true), (1, true), (2, true), (3, true), (4, true), (5, true), (6, true), (7, true), (8, true), (9, true), (10, true), (11, false), (12, true)] S35 Tryd.mixed (by kernel_rfl) (planOK_of (T := [(0, some 103, 1), (0, some 104, 1024), (0, some 105, 1024), (0, some 106, 8192), (12, some 107, 121694457621910022543683507716096), (19, some 108, 192682891234690869027498887217152), (0, some 109, 1), (0, some 110, 1024), (0, some 111, 8192), (384, some 112, 3894222643901120721397872246915072), (576, some 113, 5841333965851681082096808370372608), (1056, some 114, 10709112270728081983844148679016448), (4095, some 15, 20769187434139310514121985316880384)]) (by kernel_rfl) (by kernel_rfl)) ?_
                          intro w28 S38
                          refine PB.mk (S38.sub (.cons_cons _ (.cons_cons _ (.cons_cons _ (.slnil))))) ?_
                          refine PL.take 0 103 (.string s) (fun _ _ => by kernel_rfl) ?_
                          refine PL.take 1 104 (.int .i64 i) (fun _ _ => by kernel_rfl) ?_
                          refine PL.take 2 105 (.int .i64 i) (fun _ _ => by kernel_rfl) ?_
                          refine PL.take 3 106 (.int .i64 (digitsF (ls (s.extract ((i).toNat) s.size)))) (fun _ _ => by kernel_rfl) ?_
                          refine PL.take 4 107 (.int .i64 (IntKind.wrap .i64 (i + (digitsF (ls (s.extract ((i).toNat) s.size)))))) (fun _ _ => by kernel_rfl) ?_
                          refine PL.head (.int .i64 (i + (digitsF (ls (s.extract ((i).toNat) s.size))))) (congrArg (Value.int .i64) (IntWalk.i64_in _ (by omega))) ?_
                          refine PL.takeOK 5 (fun w_ S_ => OK.sliceT 108 9 s (some (.int .i64 i)) (some (.int .i64 (i + (digitsF (ls (s.extract ((i).toNat) s.size)))))) ((i).toNat) ((i + (digitsF (ls (s.extract ((i).toNat) s.size)))).toNat) (by kernel_rfl) (by kernel_rfl) (.inr ⟨_, _, rfl, by omega⟩) (.inr ⟨_, _, rfl, by omega⟩) (by first | omega | (simp; omega)) (by first | omega | (simp; omega))) rfl ?_
                          refine PL.take 6 109 (.string s) (fun _ _ => by kernel_rfl) ?_
                          refine PL.take 7 110 (.int .i64 i) (fun _ _ => by kernel_rfl) ?_
                          refine PL.take 8 111 (.int .i64 (digitsF (ls (s.extract ((i).toNat) s.size)))) (fun _ _ => by kernel_rfl) ?_
                          refine PL.take 9 112 (.int .i64 (IntKind.wrap .i64 (i + (digitsF (ls (s.extract ((i).toNat) s.size)))))) (fun _ _ => by kernel_rfl) ?_
                          refine PL.head (.int .i64 (i + (digitsF (ls (s.extract ((i).toNat) s.size))))) (congrArg (Value.int .i64) (IntWalk.i64_in _ (by omega))) ?_
                          refine PL.takeOK 10 (fun w_ S_ => OK.sliceT 113 9 s (some (.int .i64 (i + (digitsF (ls (s.extract ((i).toNat) s.size)))))) none ((i + (digitsF (ls (s.extract ((i).toNat) s.size)))).toNat) s.size (by kernel_rfl) (by kernel_rfl) (.inr ⟨_, _, rfl, by omega⟩) (.inl ⟨rfl, rfl⟩) (by first | omega | (simp; omega)) (by first | omega | (simp; omega))) rfl ?_
                          have := size_extract s (i := i.toNat) (j := (i + digitsF (ls (s.extract ((i).toNat) (s.size)))).toNat) (by omega)
                          refine PL.callF 114 39 #[.string (s.extract ((i).toNat) ((i + (digitsF (ls (s.extract ((i).toNat) s.size)))).toNat)), .string (s.extract ((i + (digitsF (ls (s.extract ((i).toNat) s.size)))).toNat) s.size)] hb39 (by kernel_rfl) (rnumber_any (s.extract ((i).toNat) ((i + (digitsF (ls (s.extract ((i).toNat) s.size)))).toNat)) (s.extract ((i + (digitsF (ls (s.extract ((i).toNat) s.size)))).toNat) s.size) _ (by omega) (ref_digok h0 hr hn1 hnn).1 (ref_digok h0 hr hn1 hnn).2) ?_
                          rintro _ w29 ⟨rfl, T5⟩
                          have S39 : Sep w [box b2 [.int .i64 ln, .int .i64 ((i - st0) + 1)] 25, rowOf tkE ra rc 36 4 out, box b1 [.int .i64 0, .int .i64 0] 25] w29 := S38.trans T5
                          clear T5 S38
                          refine PB.mk (S39.sub (.cons_cons _ (.cons_cons _ (.cons_cons _ (.slnil))))) ?_
                          refine PL.take 12 15 (.int .i64 (numE (s.extract ((i).toNat) ((i + (digitsF (ls (s.extract ((i).toNat) s.size)))).toNat)) (ls (s.extract ((i + (digitsF (ls (s.extract ((i).toNat) s.size)))).toNat) s.size)))) (fun _ _ => by kernel_rfl) ?_
                          refine PL.done ?_
                          refine J.run 0 (rRest K11_63) [(15, .int .i64 (numE (s.extract ((i).toNat) ((i + (digitsF (ls (s.extract ((i).toNat) s.size)))).toNat)) (ls (s.extract ((i + (digitsF (ls (s.extract ((i).toNat) s.size)))).toNat) s.size)))), (14, .int .i64 2), (13, .int .i64 (digitsF (ls (s.extract ((i).toNat) s.size)))), (11, .pointer (some ⟨b2, 0, none⟩)), (10, .int .i64 i), (9, .bool cm), (8, .bool sm), (7, .int .i64 st0), (6, .int .i64 ln), (5, .slice ra out.length rc), (3, .pointer (some ⟨b1, 0, none⟩)), (0, .string s)] w29 (by kernel_rfl) ?_
                          refine J.run 5 K11_64 [(116, .bool ((numE (s.extract ((i).toNat) ((i + (digitsF (ls (s.extract ((i).toNat) s.size)))).toNat)) (ls (s.extract ((i + (digitsF (ls (s.extract ((i).toNat) s.size)))).toNat) s.size))) != 0)), (15, .int .i64 (numE (s.extract ((i).toNat) ((i + (digitsF (ls (s.extract ((i).toNat) s.size)))).toNat)) (ls (s.extract ((i + (digitsF (ls (s.extract ((i).toNat) s.size)))).toNat) s.size)))), (14, .int .i64 2), (13, .int .i64 (digitsF (ls (s.extract ((i).toNat) s.size)))), (11, .pointer (some ⟨b2, 0, none⟩)), (10, .int .i64 i), (9, .bool cm), (8, .bool sm), (7, .int .i64 st0), (6, .int .i64 ln), (5, .slice ra out.length rc), (3, .pointer (some ⟨b1, 0, none⟩)), (0, .string s)] w29 (by kernel_rfl) ?_
                          by_cases fk20 : (numE (s.extract ((i).toNat) ((i + (digitsF (ls (s.extract ((i).toNat) s.size)))).toNat)) (ls (s.extract ((i + (digitsF (ls (s.extract ((i).toNat) s.size)))).toNat) s.size))) = 0
                          · skip
                            refine J.head (.bool false) (congrArg Value.bool (bne_eq_false_iff_eq.2 fk20)) ?_
                            refine J.run 3 K11_65 [(9, .bool cm), (14, .int .i64 2), (13, .int .i64 (digitsF (ls (s.extract ((i).toNat) s.size)))), (11, .pointer (some ⟨b2, 0, none⟩)), (10, .int .i64 i), (8, .bool sm), (7, .int .i64 st0), (6, .int .i64 ln), (5, .slice ra out.length rc), (3, .pointer (some ⟨b1, 0, none⟩)), (0, .string s)] w29 (by kernel_rfl) ?_
                            refine J.head (.bool false) (congrArg Value.bool fk8) ?_
                            refine J.run 0 K11_32 [(11, .pointer (some ⟨b2, 0, none⟩)), (10, .int .i64 i), (8, .bool sm), (7, .int .i64 st0), (6, .int .i64 ln), (5, .slice ra out.length rc), (3, .pointer (some ⟨b1, 0, none⟩)), (0, .string s), (9, .bool false), (13, .int .i64 (digitsF (ls (s.extract ((i).toNat) s.size)))), (14, .int .i64 2)] w29 (by kernel_rfl) ?_
                            exact X1 false (digitsF (ls (s.extract ((i).toNat) s.size))) 2 w29 (⟨by omega, by omega⟩) (by omega) ((hQ.1 (by omega)).trans (by rw [fk8]; exact rx_tok h0 hr hc (by omega) (by omega) (k := 2) (n := (digitsF (ls (s.extract ((i).toNat) s.size)))) ((ref_num (by rw [hc]; omega) (by rw [hc]; exact fk16) hn1 h0 hr hnn).trans (by rw [if_pos (by omega)])) (by omega))) S39
                          · skip
                            refine J.head (.bool true) (congrArg Value.bool (bne_iff_ne.2 fk20)) ?_
                            refine J.run 2 K11_66 [(15, .int .i64 (numE (s.extract ((i).toNat) ((i + (digitsF (ls (s.extract ((i).toNat) s.size)))).toNat)) (ls (s.extract ((i + (digitsF (ls (s.extract ((i).toNat) s.size)))).toNat) s.size)))), (11, .pointer (some ⟨b2, 0, none⟩)), (3, .pointer (some ⟨b1, 0, none⟩))] w29 (by kernel_rfl) ?_
                            refine J.drawPlan (fun w_ => Sep w [box b2 [.int .i64 ln, .int .i64 ((i - st0) + 1)] 25, rowOf tkE ra rc 36 4 out] w_) [(0, true), (1, true), (2, true), (3, false), (4, true)] S39 Tryd.mixed (by kernel_rfl) (planOK_of (T := [(0, some 117, 2048), (0, some 118, 32768), (0, some 2, 0), (5, none, 166153499473114484112975882535043080), (15, some 4, 332306998946228968225951765070086144)]) (by kernel_rfl) (by kernel_rfl)) ?_
                            intro w30 S40
                            refine PB.mk (S40.sub (.cons_cons _ (.cons_cons _ (.cons _ (.slnil))))) ?_
                            refine PL.takeOK 0 (fun w_ S_ => OK.ldBox S_ 0 117 25 0 (.agg #[.int .i64 ln, .int .i64 ((i - st0) + 1)]) (by kernel_rfl) rfl (by kernel_rfl)) rfl ?_
                            refine PL.take 1 118 (.int .i64 (numE (s.extract ((i).toNat) ((i + (digitsF (ls (s.extract ((i).toNat) s.size)))).toNat)) (ls (s.extract ((i + (digitsF (ls (s.extract ((i).toNat) s.size)))).toNat) s.size)))) (fun _ _ => by kernel_rfl) ?_
                            refine PL.take 2 2 (.slice none 0 0) (fun _ _ => by kernel_rfl) ?_
                            refine PL.stBox S40 2 25 0 (.agg #[.int .i64 ln, .int .i64 ((i - st0) + 1)]) [.int .i64 ln, .int .i64 ((i - st0) + 1)] [box b2 [.int .i64 ln, .int .i64 ((i - st0) + 1)] 25, rowOf tkE ra rc 36 4 out, box b1 [.int .i64 ln, .int .i64 ((i - st0) + 1)] 25] (by kernel_rfl) rfl (by kernel_rfl) (by kernel_rfl) rfl ?_
                            intro w31 S41
                            refine PB.mk (S41.sub (.cons_cons _ (.cons_cons _ (.cons _ (.slnil))))) ?_
                            refine PL.take 4 4 (.int .i64 (numE (s.extract ((i).toNat) ((i + (digitsF (ls (s.extract ((i).toNat) s.size)))).toNat)) (ls (s.extract ((i + (digitsF (ls (s.extract ((i).toNat) s.size)))).toNat) s.size)))) (fun _ _ => by kernel_rfl) ?_
                            refine PL.done ?_
                            refine J.run 0 (rRest K11_66) [(4, .int .i64 (numE (s.extract ((i).toNat) ((i + (digitsF (ls (s.extract ((i).toNat) s.size)))).toNat)) (ls (s.extract ((i + (digitsF (ls (s.extract ((i).toNat) s.size)))).toNat) s.size)))), (2, .slice none 0 0), (3, .pointer (some ⟨b1, 0, none⟩))] w31 (by kernel_rfl) ?_
                            refine J.ret Tryd.f11 [.slice none 0 0, .agg #[.int .i64 ln, .int .i64 ((i - st0) + 1)], .int .i64 (numE (s.extract ((i).toNat) ((i + (digitsF (ls (s.extract ((i).toNat) s.size)))).toNat)) (ls (s.extract ((i + (digitsF (ls (s.extract ((i).toNat) s.size)))).toNat) s.size)))] Tryd.func11 ⟨by kernel_rfl, ⟨⟨b1, 0, none⟩, by kernel_rfl, ldV_run (S41.nth 2 rfl) (by kernel_rfl)⟩, by kernel_rfl, trivial⟩ ?_
                            refine hR _ _ ?_
                            have e_ : tkF s = ⟨[], ln, (i - st0) + 1, numE (s.extract ((i).toNat) ((i + (digitsF (ls (s.extract ((i).toNat) s.size)))).toNat)) (ls (s.extract ((i + (digitsF (ls (s.extract ((i).toNat) s.size)))).toNat) s.size))⟩ := (hQ.1 (by omega)).trans (by rw [fk8]; exact rx_err hr hc (by omega) (by omega) ((ref_num (by rw [hc]; omega) (by rw [hc]; exact fk16) hn1 h0 hr hnn).trans (by rw [if_neg (by omega)])) (by omega))
                            exact ⟨none, 0, by rw [e_]; rfl, by rw [e_]; exact S41.nil.nilRow 36 4⟩
                      · skip
                        refine J.head (.bool false) (congrArg Value.bool fk18) ?_
                        refine J.run 5 K11_67 [(89, .bool ((byteAt s (i).toNat) == 45)), (13, .int .i64 1), (12, .int .u8 (byteAt s (i).toNat)), (11, .pointer (some ⟨b2, 0, none⟩)), (10, .int .i64 i), (9, .bool cm), (8, .bool sm), (7, .int .i64 st0), (6, .int .i64 ln), (5, .slice ra out.length rc), (3, .pointer (some ⟨b1, 0, none⟩)), (0, .string s)] w24 (by kernel_rfl) ?_
                        by_cases fk21 : (byteAt s (i).toNat) = 45
                        · skip
                          refine J.head (.bool true) (congrArg Value.bool (beq_iff_eq.2 fk21)) ?_
                          refine J.run 5 K11_68 [(97, .int .i64 i), (96, .string s), (11, .pointer (some ⟨b2, 0, none⟩)), (10, .int .i64 i), (9, .bool cm), (8, .bool sm), (7, .int .i64 st0), (6, .int .i64 ln), (5, .slice ra out.length rc), (3, .pointer (some ⟨b1, 0, none⟩)), (0, .string s)] w24 (by kernel_rfl) ?_
                          refine J.ok (OK.sliceT 98 9 s (some (.int .i64 i)) none ((i).toNat) s.size (by kernel_rfl) (by kernel_rfl) (.inr ⟨_, _, rfl, by omega⟩) (.inl ⟨rfl, rfl⟩) (by first | omega | (simp; omega)) (by first | omega | (simp; omega))) ?_
                          have := size_extract s (i := (i).toNat) (j := s.size) (by first | omega | (simp; omega))
                          obtain ⟨hdv, hdv0, hdl⟩ := ref_digits (s := s) (i := i) hr
                          refine J.callF 99 38 #[.string (s.extract ((i).toNat) s.size)] hb38 (by kernel_rfl) (rdigits_any (s.extract ((i).toNat) s.size) _ (by omega)) ?_
                          rintro _ w32 ⟨rfl, T6⟩
                          have S42 : Sep w [box b2 [.int .i64 ln, .int .i64 ((i - st0) + 1)] 25, rowOf tkE ra rc 36 4 out, box b1 [.int .i64 0, .int .i64 0] 25] w32 := S34.trans T6
                          clear T6 S34
                          refine J.run 9 K11_69 [(101, .bool ((digitsF (ls (s.extract ((i).toNat) s.size))) == 0)), (14, .int .i64 2), (13, .int .i64 (digitsF (ls (s.extract ((i).toNat) s.size)))), (11, .pointer (some ⟨b2, 0, none⟩)), (10, .int .i64 i), (9, .bool cm), (8, .bool sm), (7, .int .i64 st0), (6, .int .i64 ln), (5, .slice ra out.length rc), (3, .pointer (some ⟨b1, 0, none⟩)), (0, .string s)] w32 (by kernel_rfl) ?_
                          by_cases fk22 : (digitsF (ls (s.extract ((i).toNat) s.size))) = 0
                          · skip
                            refine J.head (.bool true) (congrArg Value.bool (beq_iff_eq.2 fk22)) ?_
                            have hn0 : numB (c :: r) = false := by cases h_ : numB (c :: r) with | false => rfl | true => (have := hdv h_; omega)
                            refine J.run 2 K11_70 [(11, .pointer (some ⟨b2, 0, none⟩)), (3, .pointer (some ⟨b1, 0, none⟩))] w32 (by kernel_rfl) ?_
                            refine J.drawPlan (fun w_ => Sep w [box b2 [.int .i64 ln, .int .i64 ((i - st0) + 1)] 25, rowOf tkE ra rc 36 4 out] w_) [(0, true), (1, true), (2, false), (3, true)] S42 Tryd.mixed (by kernel_rfl) (planOK_of (T := [(0, some 102, 2048), (0, some 2, 0), (3, none, 5070602400912917605986812821512), (7, some 4, 0)]) (by kernel_rfl) (by kernel_rfl)) ?_
                            intro w33 S43
                            refine PB.mk (S43.sub (.cons_cons _ (.cons_cons _ (.cons _ (.slnil))))) ?_
                            refine PL.takeOK 0 (fun w_ S_ => OK.ldBox S_ 0 102 25 0 (.agg #[.int .i64 ln, .int .i64 ((i - st0) + 1)]) (by kernel_rfl) rfl (by kernel_rfl)) rfl ?_
                            refine PL.take 1 2 (.slice none 0 0) (fun _ _ => by kernel_rfl) ?_
                            refine PL.stBox S43 2 25 0 (.agg #[.int .i64 ln, .int .i64 ((i - st0) + 1)]) [.int .i64 ln, .int .i64 ((i - st0) + 1)] [box b2 [.int .i64 ln, .int .i64 ((i - st0) + 1)] 25, rowOf tkE ra rc 36 4 out, box b1 [.int .i64 ln, .int .i64 ((i - st0) + 1)] 25] (by kernel_rfl) rfl (by kernel_rfl) (by kernel_rfl) rfl ?_
                            intro w34 S44
                            refine PB.mk (S44.sub (.cons_cons _ (.cons_cons _ (.cons _ (.slnil))))) ?_
                            refine PL.take 3 4 (.int .i64 3) (fun _ _ => by kernel_rfl) ?_
                            refine PL.done ?_
                            refine J.run 0 (rRest K11_70) [(4, .int .i64 3), (2, .slice none 0 0), (3, .pointer (some ⟨b1, 0, none⟩))] w34 (by kernel_rfl) ?_
                            refine J.ret Tryd.f11 [.slice none 0 0, .agg #[.int .i64 ln, .int .i64 ((i - st0) + 1)], .int .i64 3] Tryd.func11 ⟨by kernel_rfl, ⟨⟨b1, 0, none⟩, by kernel_rfl, ldV_run (S44.nth 2 rfl) (by kernel_rfl)⟩, by kernel_rfl, trivial⟩ ?_
                            refine hR _ _ ?_
                            have e_ : tkF s = ⟨[], ln, (i - st0) + 1, 3⟩ := (hQ.1 (by omega)).trans (by rw [fk8]; exact rx_err hr hc (by omega) (by omega) (ref_dash (by rw [hc]; omega) (by rw [hc]; exact fk16) hn0 (by rw [hc]; first | exact .inl fk18 | exact .inr (by omega))) (by omega))
                            exact ⟨none, 0, by rw [e_]; rfl, by rw [e_]; exact S44.nil.nilRow 36 4⟩
                          · skip
                            refine J.head (.bool false) (congrArg Value.bool (beq_eq_false_iff_ne.2 fk22)) ?_
                            have hn1 : numB (c :: r) = true := by cases h_ : numB (c :: r) with | true => rfl | false => exact absurd (hdv0 h_) fk22
                            have hnn := hdv hn1
                            refine J.run 3 K11_71 [(14, .int .i64 2), (13, .int .i64 (digitsF (ls (s.extract ((i).toNat) s.size)))), (11, .pointer (some ⟨b2, 0, none⟩)), (10, .int .i64 i), (9, .bool cm), (8, .bool sm), (7, .int .i64 st0), (6, .int .i64 ln), (5, .slice ra out.length rc), (3, .pointer (some ⟨b1, 0, none⟩)), (0, .string s)] w32 (by kernel_rfl) ?_
                            refine J.drawPlan (fun w_ => Sep w [box b2 [.int .i64 ln, .int .i64 ((i - st0) + 1)] 25, rowOf tkE ra rc 36 4 out, box b1 [.int .i64 0, .int .i64 0] 25] w_) [(0, true), (1, true), (2, true), (3, true), (4, true), (5, true), (6, true), (7, true), (8, true), (9, true), (10, true), (11, false), (12, true)] S42 Tryd.mixed (by kernel_rfl) (planOK_of (T := [(0, some 103, 1), (0, some 104, 1024), (0, some 105, 1024), (0, some 106, 8192), (12, some 107, 121694457621910022543683507716096), (19, some 108, 192682891234690869027498887217152), (0, some 109, 1), (0, some 110, 1024), (0, some 111, 8192), (384, some 112, 3894222643901120721397872246915072), (576, some 113, 5841333965851681082096808370372608), (1056, some 114, 10709112270728081983844148679016448), (4095, some 15, 20769187434139310514121985316880384)]) (by kernel_rfl) (by kernel_rfl)) ?_
                            intro w35 S45
                            refine PB.mk (S45.sub (.cons_cons _ (.cons_cons _ (.cons_cons _ (.slnil))))) ?_
                            refine PL.take 0 103 (.string s) (fun _ _ => by kernel_rfl) ?_
                            refine PL.take 1 104 (.int .i64 i) (fun _ _ => by kernel_rfl) ?_
                            refine PL.take 2 105 (.int .i64 i) (fun _ _ => by kernel_rfl) ?_
                            refine PL.take 3 106 (.int .i64 (digitsF (ls (s.extract ((i).toNat) s.size)))) (fun _ _ => by kernel_rfl) ?_
                            refine PL.take 4 107 (.int .i64 (IntKind.wrap .i64 (i + (digitsF (ls (s.extract ((i).toNat) s.size)))))) (fun _ _ => by kernel_rfl) ?_
                            refine PL.head (.int .i64 (i + (digitsF (ls (s.extract ((i).toNat) s.size))))) (congrArg (Value.int .i64) (IntWalk.i64_in _ (by omega))) ?_
                            refine PL.takeOK 5 (fun w_ S_ => OK.sliceT 108 9 s (some (.int .i64 i)) (some (.int .i64 (i + (digitsF (ls (s.extract ((i).toNat) s.size)))))) ((i).toNat) ((i + (digitsF (ls (s.extract ((i).toNat) s.size)))).toNat) (by kernel_rfl) (by kernel_rfl) (.inr ⟨_, _, rfl, by omega⟩) (.inr ⟨_, _, rfl, by omega⟩) (by first | omega | (simp; omega)) (by first | omega | (simp; omega))) rfl ?_
                            refine PL.take 6 109 (.string s) (fun _ _ => by kernel_rfl) ?_
                            refine PL.take 7 110 (.int .i64 i) (fun _ _ => by kernel_rfl) ?_
                            refine PL.take 8 111 (.int .i64 (digitsF (ls (s.extract ((i).toNat) s.size)))) (fun _ _ => by kernel_rfl) ?_
                            refine PL.take 9 112 (.int .i64 (IntKind.wrap .i64 (i + (digitsF (ls (s.extract ((i).toNat) s.size)))))) (fun _ _ => by kernel_rfl) ?_
                            refine PL.head (.int .i64 (i + (digitsF (ls (s.extract ((i).toNat) s.size))))) (congrArg (Value.int .i64) (IntWalk.i64_in _ (by omega))) ?_
                            refine PL.takeOK 10 (fun w_ S_ => OK.sliceT 113 9 s (some (.int .i64 (i + (digitsF (ls (s.extract ((i).toNat) s.size)))))) none ((i + (digitsF (ls (s.extract ((i).toNat) s.size)))).toNat) s.size (by kernel_rfl) (by kernel_rfl) (.inr ⟨_, _, rfl, by omega⟩) (.inl ⟨rfl, rfl⟩) (by first | omega | (simp; omega)) (by first | omega | (simp; omega))) rfl ?_
                            have := size_extract s (i := i.toNat) (j := (i + digitsF (ls (s.extract ((i).toNat) (s.size)))).toNat) (by omega)
                            refine PL.callF 114 39 #[.string (s.extract ((i).toNat) ((i + (digitsF (ls (s.extract ((i).toNat) s.size)))).toNat)), .string (s.extract ((i + (digitsF (ls (s.extract ((i).toNat) s.size)))).toNat) s.size)] hb39 (by kernel_rfl) (rnumber_any (s.extract ((i).toNat) ((i + (digitsF (ls (s.extract ((i).toNat) s.size)))).toNat)) (s.extract ((i + (digitsF (ls (s.extract ((i).toNat) s.size)))).toNat) s.size) _ (by omega) (ref_digok h0 hr hn1 hnn).1 (ref_digok h0 hr hn1 hnn).2) ?_
                            rintro _ w36 ⟨rfl, T7⟩
                            have S46 : Sep w [box b2 [.int .i64 ln, .int .i64 ((i - st0) + 1)] 25, rowOf tkE ra rc 36 4 out, box b1 [.int .i64 0, .int .i64 0] 25] w36 := S45.trans T7
                            clear T7 S45
                            refine PB.mk (S46.sub (.cons_cons _ (.cons_cons _ (.cons_cons _ (.slnil))))) ?_
                            refine PL.take 12 15 (.int .i64 (numE (s.extract ((i).toNat) ((i + (digitsF (ls (s.extract ((i).toNat) s.size)))).toNat)) (ls (s.extract ((i + (digitsF (ls (s.extract ((i).toNat) s.size)))).toNat) s.size)))) (fun _ _ => by kernel_rfl) ?_
                            refine PL.done ?_
                            refine J.run 0 (rRest K11_71) [(15, .int .i64 (numE (s.extract ((i).toNat) ((i + (digitsF (ls (s.extract ((i).toNat) s.size)))).toNat)) (ls (s.extract ((i + (digitsF (ls (s.extract ((i).toNat) s.size)))).toNat) s.size)))), (14, .int .i64 2), (13, .int .i64 (digitsF (ls (s.extract ((i).toNat) s.size)))), (11, .pointer (some ⟨b2, 0, none⟩)), (10, .int .i64 i), (9, .bool cm), (8, .bool sm), (7, .int .i64 st0), (6, .int .i64 ln), (5, .slice ra out.length rc), (3, .pointer (some ⟨b1, 0, none⟩)), (0, .string s)] w36 (by kernel_rfl) ?_
                            refine J.run 5 K11_72 [(116, .bool ((numE (s.extract ((i).toNat) ((i + (digitsF (ls (s.extract ((i).toNat) s.size)))).toNat)) (ls (s.extract ((i + (digitsF (ls (s.extract ((i).toNat) s.size)))).toNat) s.size))) != 0)), (15, .int .i64 (numE (s.extract ((i).toNat) ((i + (digitsF (ls (s.extract ((i).toNat) s.size)))).toNat)) (ls (s.extract ((i + (digitsF (ls (s.extract ((i).toNat) s.size)))).toNat) s.size)))), (14, .int .i64 2), (13, .int .i64 (digitsF (ls (s.extract ((i).toNat) s.size)))), (11, .pointer (some ⟨b2, 0, none⟩)), (10, .int .i64 i), (9, .bool cm), (8, .bool sm), (7, .int .i64 st0), (6, .int .i64 ln), (5, .slice ra out.length rc), (3, .pointer (some ⟨b1, 0, none⟩)), (0, .string s)] w36 (by kernel_rfl) ?_
                            by_cases fk23 : (numE (s.extract ((i).toNat) ((i + (digitsF (ls (s.extract ((i).toNat) s.size)))).toNat)) (ls (s.extract ((i + (digitsF (ls (s.extract ((i).toNat) s.size)))).toNat) s.size))) = 0
                            · skip
                              refine J.head (.bool false) (congrArg Value.bool (bne_eq_false_iff_eq.2 fk23)) ?_
                              refine J.run 3 K11_73 [(9, .bool cm), (14, .int .i64 2), (13, .int .i64 (digitsF (ls (s.extract ((i).toNat) s.size)))), (11, .pointer (some ⟨b2, 0, none⟩)), (10, .int .i64 i), (8, .bool sm), (7, .int .i64 st0), (6, .int .i64 ln), (5, .slice ra out.length rc), (3, .pointer (some ⟨b1, 0, none⟩)), (0, .string s)] w36 (by kernel_rfl) ?_
                              refine J.head (.bool false) (congrArg Value.bool fk8) ?_
                              refine J.run 0 K11_32 [(11, .pointer (some ⟨b2, 0, none⟩)), (10, .int .i64 i), (8, .bool sm), (7, .int .i64 st0), (6, .int .i64 ln), (5, .slice ra out.length rc), (3, .pointer (some ⟨b1, 0, none⟩)), (0, .string s), (9, .bool false), (13, .int .i64 (digitsF (ls (s.extract ((i).toNat) s.size)))), (14, .int .i64 2)] w36 (by kernel_rfl) ?_
                              exact X1 false (digitsF (ls (s.extract ((i).toNat) s.size))) 2 w36 (⟨by omega, by omega⟩) (by omega) ((hQ.1 (by omega)).trans (by rw [fk8]; exact rx_tok h0 hr hc (by omega) (by omega) (k := 2) (n := (digitsF (ls (s.extract ((i).toNat) s.size)))) ((ref_num (by rw [hc]; omega) (by rw [hc]; exact fk16) hn1 h0 hr hnn).trans (by rw [if_pos (by omega)])) (by omega))) S46
                            · skip
                              refine J.head (.bool true) (congrArg Value.bool (bne_iff_ne.2 fk23)) ?_
                              refine J.run 2 K11_74 [(15, .int .i64 (numE (s.extract ((i).toNat) ((i + (digitsF (ls (s.extract ((i).toNat) s.size)))).toNat)) (ls (s.extract ((i + (digitsF (ls (s.extract ((i).toNat) s.size)))).toNat) s.size)))), (11, .pointer (some ⟨b2, 0, none⟩)), (3, .pointer (some ⟨b1, 0, none⟩))] w36 (by kernel_rfl) ?_
                              refine J.drawPlan (fun w_ => Sep w [box b2 [.int .i64 ln, .int .i64 ((i - st0) + 1)] 25, rowOf tkE ra rc 36 4 out] w_) [(0, true), (1, true), (2, true), (3, false), (4, true)] S46 Tryd.mixed (by kernel_rfl) (planOK_of (T := [(0, some 117, 2048), (0, some 118, 32768), (0, some 2, 0), (5, none, 166153499473114484112975882535043080), (15, some 4, 332306998946228968225951765070086144)]) (by kernel_rfl) (by kernel_rfl)) ?_
                              intro w37 S47
                              refine PB.mk (S47.sub (.cons_cons _ (.cons_cons _ (.cons _ (.slnil))))) ?_
                              refine PL.takeOK 0 (fun w_ S_ => OK.ldBox S_ 0 117 25 0 (.agg #[.int .i64 ln, .int .i64 ((i - st0) + 1)]) (by kernel_rfl) rfl (by kernel_rfl)) rfl ?_
                              refine PL.take 1 118 (.int .i64 (numE (s.extract ((i).toNat) ((i + (digitsF (ls (s.extract ((i).toNat) s.size)))).toNat)) (ls (s.extract ((i + (digitsF (ls (s.extract ((i).toNat) s.size)))).toNat) s.size)))) (fun _ _ => by kernel_rfl) ?_
                              refine PL.take 2 2 (.slice none 0 0) (fun _ _ => by kernel_rfl) ?_
                              refine PL.stBox S47 2 25 0 (.agg #[.int .i64 ln, .int .i64 ((i - st0) + 1)]) [.int .i64 ln, .int .i64 ((i - st0) + 1)] [box b2 [.int .i64 ln, .int .i64 ((i - st0) + 1)] 25, rowOf tkE ra rc 36 4 out, box b1 [.int .i64 ln, .int .i64 ((i - st0) + 1)] 25] (by kernel_rfl) rfl (by kernel_rfl) (by kernel_rfl) rfl ?_
                              intro w38 S48
                              refine PB.mk (S48.sub (.cons_cons _ (.cons_cons _ (.cons _ (.slnil))))) ?_
                              refine PL.take 4 4 (.int .i64 (numE (s.extract ((i).toNat) ((i + (digitsF (ls (s.extract ((i).toNat) s.size)))).toNat)) (ls (s.extract ((i + (digitsF (ls (s.extract ((i).toNat) s.size)))).toNat) s.size)))) (fun _ _ => by kernel_rfl) ?_
                              refine PL.done ?_
                              refine J.run 0 (rRest K11_74) [(4, .int .i64 (numE (s.extract ((i).toNat) ((i + (digitsF (ls (s.extract ((i).toNat) s.size)))).toNat)) (ls (s.extract ((i + (digitsF (ls (s.extract ((i).toNat) s.size)))).toNat) s.size)))), (2, .slice none 0 0), (3, .pointer (some ⟨b1, 0, none⟩))] w38 (by kernel_rfl) ?_
                              refine J.ret Tryd.f11 [.slice none 0 0, .agg #[.int .i64 ln, .int .i64 ((i - st0) + 1)], .int .i64 (numE (s.extract ((i).toNat) ((i + (digitsF (ls (s.extract ((i).toNat) s.size)))).toNat)) (ls (s.extract ((i + (digitsF (ls (s.extract ((i).toNat) s.size)))).toNat) s.size)))] Tryd.func11 ⟨by kernel_rfl, ⟨⟨b1, 0, none⟩, by kernel_rfl, ldV_run (S48.nth 2 rfl) (by kernel_rfl)⟩, by kernel_rfl, trivial⟩ ?_
                              refine hR _ _ ?_
                              have e_ : tkF s = ⟨[], ln, (i - st0) + 1, numE (s.extract ((i).toNat) ((i + (digitsF (ls (s.extract ((i).toNat) s.size)))).toNat)) (ls (s.extract ((i + (digitsF (ls (s.extract ((i).toNat) s.size)))).toNat) s.size))⟩ := (hQ.1 (by omega)).trans (by rw [fk8]; exact rx_err hr hc (by omega) (by omega) ((ref_num (by rw [hc]; omega) (by rw [hc]; exact fk16) hn1 h0 hr hnn).trans (by rw [if_neg (by omega)])) (by omega))
                              exact ⟨none, 0, by rw [e_]; rfl, by rw [e_]; exact S48.nil.nilRow 36 4⟩
                        · skip
                          refine J.head (.bool false) (congrArg Value.bool (beq_eq_false_iff_ne.2 fk21)) ?_
                          refine J.run 4 K11_75 [(120, .int .u8 (byteAt s (i).toNat)), (13, .int .i64 1), (11, .pointer (some ⟨b2, 0, none⟩)), (10, .int .i64 i), (9, .bool cm), (8, .bool sm), (7, .int .i64 st0), (6, .int .i64 ln), (5, .slice ra out.length rc), (3, .pointer (some ⟨b1, 0, none⟩)), (0, .string s)] w24 (by kernel_rfl) ?_
                          refine J.callF 121 40 #[.int .u8 (byteAt s (i).toNat)] hb40 (by kernel_rfl) (rsymbol_any (byteAt s (i).toNat) _) ?_
                          rintro _ w39 ⟨rfl, T8⟩
                          have S49 : Sep w [box b2 [.int .i64 ln, .int .i64 ((i - st0) + 1)] 25, rowOf tkE ra rc 36 4 out, box b1 [.int .i64 0, .int .i64 0] 25] w39 := S34.trans T8
                          clear T8 S34
                          refine J.run 2 K11_76 [(119, .bool (symB (byteAt s (i).toNat))), (13, .int .i64 1), (11, .pointer (some ⟨b2, 0, none⟩)), (10, .int .i64 i), (9, .bool cm), (8, .bool sm), (7, .int .i64 st0), (6, .int .i64 ln), (5, .slice ra out.length rc), (3, .pointer (some ⟨b1, 0, none⟩)), (0, .string s)] w39 (by kernel_rfl) ?_
                          rcases Bool.eq_false_or_eq_true (symB (byteAt s (i).toNat)) with fk24 | fk24
                          · skip
                            refine J.head (.bool true) (congrArg Value.bool fk24) ?_
                            refine J.run 5 K11_77 [(9, .bool cm), (14, .int .i64 3), (13, .int .i64 1), (11, .pointer (some ⟨b2, 0, none⟩)), (10, .int .i64 i), (8, .bool sm), (7, .int .i64 st0), (6, .int .i64 ln), (5, .slice ra out.length rc), (3, .pointer (some ⟨b1, 0, none⟩)), (0, .string s)] w39 (by kernel_rfl) ?_
                            refine J.head (.bool false) (congrArg Value.bool fk8) ?_
                            refine J.run 0 K11_32 [(11, .pointer (some ⟨b2, 0, none⟩)), (10, .int .i64 i), (8, .bool sm), (7, .int .i64 st0), (6, .int .i64 ln), (5, .slice ra out.length rc), (3, .pointer (some ⟨b1, 0, none⟩)), (0, .string s), (9, .bool false), (13, .int .i64 1), (14, .int .i64 3)] w39 (by kernel_rfl) ?_
                            exact X1 false 1 3 w39 (⟨by omega, by omega⟩) (by omega) ((hQ.1 (by omega)).trans (by rw [fk8]; exact rx_tok h0 hr hc (by omega) (by omega) (k := 3) (n := 1) ((tok_sym (by rw [hc]; omega) (by rw [hc]; exact fk16) (numB_no (by omega) hr hc hr2 fk18 (.inl (by omega)))).trans (by rw [hc, fk24]; rfl)) (by omega))) S49
                          · skip
                            refine J.head (.bool false) (congrArg Value.bool fk24) ?_
                            refine J.run 2 K11_78 [(11, .pointer (some ⟨b2, 0, none⟩)), (3, .pointer (some ⟨b1, 0, none⟩))] w39 (by kernel_rfl) ?_
                            refine J.drawPlan (fun w_ => Sep w [box b2 [.int .i64 ln, .int .i64 ((i - st0) + 1)] 25, rowOf tkE ra rc 36 4 out] w_) [(0, true), (1, true), (2, false), (3, true)] S49 Tryd.mixed (by kernel_rfl) (planOK_of (T := [(0, some 55, 2048), (0, some 2, 0), (3, none, 36028797018963976), (7, some 4, 0)]) (by kernel_rfl) (by kernel_rfl)) ?_
                            intro w40 S50
                            refine PB.mk (S50.sub (.cons_cons _ (.cons_cons _ (.cons _ (.slnil))))) ?_
                            refine PL.takeOK 0 (fun w_ S_ => OK.ldBox S_ 0 55 25 0 (.agg #[.int .i64 ln, .int .i64 ((i - st0) + 1)]) (by kernel_rfl) rfl (by kernel_rfl)) rfl ?_
                            refine PL.take 1 2 (.slice none 0 0) (fun _ _ => by kernel_rfl) ?_
                            refine PL.stBox S50 2 25 0 (.agg #[.int .i64 ln, .int .i64 ((i - st0) + 1)]) [.int .i64 ln, .int .i64 ((i - st0) + 1)] [box b2 [.int .i64 ln, .int .i64 ((i - st0) + 1)] 25, rowOf tkE ra rc 36 4 out, box b1 [.int .i64 ln, .int .i64 ((i - st0) + 1)] 25] (by kernel_rfl) rfl (by kernel_rfl) (by kernel_rfl) rfl ?_
                            intro w41 S51
                            refine PB.mk (S51.sub (.cons_cons _ (.cons_cons _ (.cons _ (.slnil))))) ?_
                            refine PL.take 3 4 (.int .i64 3) (fun _ _ => by kernel_rfl) ?_
                            refine PL.done ?_
                            refine J.run 0 (rRest K11_78) [(4, .int .i64 3), (2, .slice none 0 0), (3, .pointer (some ⟨b1, 0, none⟩))] w41 (by kernel_rfl) ?_
                            refine J.ret Tryd.f11 [.slice none 0 0, .agg #[.int .i64 ln, .int .i64 ((i - st0) + 1)], .int .i64 3] Tryd.func11 ⟨by kernel_rfl, ⟨⟨b1, 0, none⟩, by kernel_rfl, ldV_run (S51.nth 2 rfl) (by kernel_rfl)⟩, by kernel_rfl, trivial⟩ ?_
                            refine hR _ _ ?_
                            have e_ : tkF s = ⟨[], ln, (i - st0) + 1, 3⟩ := (hQ.1 (by omega)).trans (by rw [fk8]; exact rx_err hr hc (by omega) (by omega) ((tok_sym (by rw [hc]; omega) (by rw [hc]; exact fk16) (numB_no (by omega) hr hc hr2 fk18 (.inl (by omega)))).trans (by rw [hc, fk24]; rfl)) (by omega))
                            exact ⟨none, 0, by rw [e_]; rfl, by rw [e_]; exact S51.nil.nilRow 36 4⟩
      · skip
        refine J.head (.bool false) (congrArg Value.bool (decide_eq_false fk2)) ?_
        refine J.run 7 K11_79 [(2, .slice ra out.length rc), (140, .agg #[.int .i64 0, .int .i64 0]), (3, .pointer (some ⟨b1, 0, none⟩))] w3 (by kernel_rfl) ?_
        refine J.stBox S4 1 25 0 (.agg #[.int .i64 0, .int .i64 0]) [.int .i64 0, .int .i64 0] [rowOf tkE ra rc 36 4 out, box b1 [.int .i64 0, .int .i64 0] 25] (by kernel_rfl) rfl (by kernel_rfl) (by kernel_rfl) rfl ?_
        intro w42 S52
        refine J.run 2 K11_80 [(4, .int .i64 0), (2, .slice ra out.length rc), (3, .pointer (some ⟨b1, 0, none⟩))] w42 (by kernel_rfl) ?_
        refine J.ret Tryd.f11 [.slice ra out.length rc, .agg #[.int .i64 0, .int .i64 0], .int .i64 0] Tryd.func11 ⟨by kernel_rfl, ⟨⟨b1, 0, none⟩, by kernel_rfl, ldV_run (S52.nth 1 rfl) (by kernel_rfl)⟩, by kernel_rfl, trivial⟩ ?_
        refine hR _ _ ?_
        have e_ : tkF s = ⟨out, 0, 0, 0⟩ := hQ.2 (by omega)
        exact ⟨_, _, by rw [e_]; rfl, by rw [e_]; exact S52.pick 0 rfl⟩
    exact L11_1 _ none 0 ([]) 1 0 false false 0 w1 (by omega) (by omega) (by omega) (by omega) (by simp) (⟨fun _ => by unfold tkF; rw [if_neg (by omega)]; rfl, fun h_ => by omega⟩) S3 rfl

def eqTk (a b : Tk) : Bool := (a.gKind == b.gKind && (a.gText.toList == b.gText.toList && (a.gPlace_Line == b.gPlace_Line && a.gPlace_Column == b.gPlace_Column)))
theorem eqTk_refl (a : Tk) : eqTk a a = true := by simp [eqTk]
def sameT (l m : List Tk) : Bool := decide (l.length = m.length) && (List.range l.length).all fun j => eqTk (l.getD j (⟨0, ByteArray.empty, 0, 0⟩ : Tk)) (m.getD j (⟨0, ByteArray.empty, 0, 0⟩ : Tk))
theorem sameT_refl (l : List Tk) : sameT l l = true := by
  unfold sameT; rw [decide_eq_true rfl, Bool.true_and, List.all_eq_true]; intro j _; exact eqTk_refl _
theorem sameT_no {l m : List Tk} (h : l.length ≠ m.length) : sameT l m = false := by unfold sameT; rw [decide_eq_false h]; rfl
theorem sameT_bad {l m : List Tk} {j : Nat} (h : j < l.length) (h2 : eqTk (l.getD j (⟨0, ByteArray.empty, 0, 0⟩ : Tk)) (m.getD j (⟨0, ByteArray.empty, 0, 0⟩ : Tk)) = false) : sameT l m = false := by
  unfold sameT; rw [Bool.and_eq_false_iff, List.all_eq_false]; exact .inr ⟨j, List.mem_range.2 h, by rw [h2]; decide⟩
theorem sameT_yes {l m : List Tk} (h : l.length = m.length) (h2 : ∀ j, j < l.length → eqTk (l.getD j (⟨0, ByteArray.empty, 0, 0⟩ : Tk)) (m.getD j (⟨0, ByteArray.empty, 0, 0⟩ : Tk)) = true) : sameT l m = true := by
  unfold sameT; rw [decide_eq_true h, Bool.true_and, List.all_eq_true]; intro j hj; exact h2 j (List.mem_range.1 hj)
theorem hb12 : HasBody Tryd.prog 12 := fun _ _ => by kernel_rfl
noncomputable def K12_0 : List Item := adv 13 [] (bodyOf Tryd.f12)
noncomputable def K12_1 : List Item := adv 9 [false] K12_0
noncomputable def K12_2 : List Item := adv 8 [] K12_1
noncomputable def K12_3 : List Item := adv 5 [true] K12_2
noncomputable def K12_4 : List Item := adv 6 [false] (rRest K12_3)
noncomputable def K12_5 : List Item := adv 5 [true] (rRest K12_3)
noncomputable def K12_6 : List Item := adv 6 [false] K12_2
noncomputable def K12_7 : List Item := adv 5 [true] K12_0
set_option maxRecDepth 20000 in
set_option maxHeartbeats 20000000 in
theorem same_any (la : Option Addr) (na ca : Nat) (xa : List Tk) (lb : Option Addr) (nb cb : Nat) (xb : List Tk) (w : World) (ha : Recs tkE 4 w la na xa) (hb : Recs tkE 4 w lb nb xb) (hla : na ≤ 9223372036854775807) : Ret Tryd.prog 12 #[.slice la na ca, .slice lb nb cb] w (fun v w' => v = .bool (sameT xa xb) ∧ Sep w [] w') := by
  have S0 := Sep.refl w
  refine Ret.named fun R hR => ?_
  refine Ret.of_J (N := 26) [(0, .slice la na ca), (1, .slice lb nb cb)] Tryd.func12 rfl rfl (Nat.le_of_ble_eq_true (by kernel_rfl)) (by kernel_rfl) ?_
  have hla_ := ha.len_eq
  have hlb_ := hb.len_eq
  refine J.run 13 K12_0 [(10, .bool ((na : Int) != (nb : Int))), (0, .slice la na ca), (1, .slice lb nb cb)] w (by kernel_rfl) ?_
  by_cases fk1 : (na : Int) = (nb : Int)
  · skip
    refine J.head (.bool false) (congrArg Value.bool (bne_eq_false_iff_eq.2 fk1)) ?_
    refine J.run 9 K12_1 [(5, .int .i64 0), (0, .slice la na ca), (1, .slice lb nb cb)] w (by kernel_rfl) ?_
    have L12_1 : ∀ (mm_ : Nat) (i : Int) (w1 : World), (0 ≤ i) → (i ≤ (na : Int)) → (∀ j, j < (i).toNat → eqTk (xa.getD j (⟨0, ByteArray.empty, 0, 0⟩ : Tk)) (xb.getD j (⟨0, ByteArray.empty, 0, 0⟩ : Tk)) = true) → Sep w [] w1 → ((na : Int) - i).toNat = mm_ → J Tryd.prog 12 26 R K12_1 [(5, .int .i64 i), (0, .slice la na ca), (1, .slice lb nb cb)] w1 := by
      intro mm1
      induction mm1 using Nat.strongRecOn with
      | _ mm1 ih1 =>
      intro i w1 h0 h1 hq S1 hm1
      refine J.run 8 K12_2 [(14, .bool (decide (i < (na : Int)))), (5, .int .i64 i), (0, .slice la na ca), (1, .slice lb nb cb)] w1 (by kernel_rfl) ?_
      by_cases fk2 : i < (na : Int)
      · skip
        refine J.head (.bool true) (congrArg Value.bool (decide_eq_true fk2)) ?_
        refine J.run 5 K12_3 [(5, .int .i64 i), (0, .slice la na ca), (1, .slice lb nb cb)] w1 (by kernel_rfl) ?_
        obtain ⟨p1, hp1, hc1⟩ := ha.at (⟨0, ByteArray.empty, 0, 0⟩ : Tk) (i).toNat (by omega)
        obtain ⟨p2, hp2, hc2⟩ := hb.at (⟨0, ByteArray.empty, 0, 0⟩ : Tk) (i).toNat (by omega)
        refine J.drawStill S1 9 Tryd.mixed (by kernel_rfl) (by kernel_rfl) (by kernel_rfl) ?_
        intro w2 S2
        refine SL.ok (by decide) (OK.run 17 (.slice la na ca) (by kernel_rfl)) ?_
        refine SL.ok (by decide) (OK.run 18 (.int .i64 i) (by kernel_rfl)) ?_
        refine SL.ok (by decide) (OK.index 19 23 4 la p1 na (i).toNat i (p1.add ((i).toNat * 4)) (by kernel_rfl) (by kernel_rfl) hp1 (by omega) (by omega) rfl) ?_
        refine SL.ok (by decide) (OK.ldCells 20 36 (p1.add ((i).toNat * 4)) [.int .i64 ((xa.getD (i).toNat (⟨0, ByteArray.empty, 0, 0⟩ : Tk)).gKind), .string ((xa.getD (i).toNat (⟨0, ByteArray.empty, 0, 0⟩ : Tk)).gText), .int .i64 ((xa.getD (i).toNat (⟨0, ByteArray.empty, 0, 0⟩ : Tk)).gPlace_Line), .int .i64 ((xa.getD (i).toNat (⟨0, ByteArray.empty, 0, 0⟩ : Tk)).gPlace_Column)] (by kernel_rfl) (by kernel_rfl) (by kernel_rfl) (fun j_ v_ hj_ => S2.cell (hc1 j_ v_ hj_))) ?_
        refine SL.ok (by decide) (OK.run 21 (.slice lb nb cb) (by kernel_rfl)) ?_
        refine SL.ok (by decide) (OK.run 22 (.int .i64 i) (by kernel_rfl)) ?_
        refine SL.ok (by decide) (OK.index 23 23 4 lb p2 nb (i).toNat i (p2.add ((i).toNat * 4)) (by kernel_rfl) (by kernel_rfl) hp2 (by omega) (by omega) rfl) ?_
        refine SL.ok (by decide) (OK.ldCells 24 36 (p2.add ((i).toNat * 4)) [.int .i64 ((xb.getD (i).toNat (⟨0, ByteArray.empty, 0, 0⟩ : Tk)).gKind), .string ((xb.getD (i).toNat (⟨0, ByteArray.empty, 0, 0⟩ : Tk)).gText), .int .i64 ((xb.getD (i).toNat (⟨0, ByteArray.empty, 0, 0⟩ : Tk)).gPlace_Line), .int .i64 ((xb.getD (i).toNat (⟨0, ByteArray.empty, 0, 0⟩ : Tk)).gPlace_Column)] (by kernel_rfl) (by kernel_rfl) (by kernel_rfl) (fun j_ v_ hj_ => S2.cell (hc2 j_ v_ hj_))) ?_
        refine SL.ok (by decide) (OK.eqS 25 false 36 #[.int .i64 ((xa.getD (i).toNat (⟨0, ByteArray.empty, 0, 0⟩ : Tk)).gKind), .string ((xa.getD (i).toNat (⟨0, ByteArray.empty, 0, 0⟩ : Tk)).gText), .int .i64 ((xa.getD (i).toNat (⟨0, ByteArray.empty, 0, 0⟩ : Tk)).gPlace_Line), .int .i64 ((xa.getD (i).toNat (⟨0, ByteArray.empty, 0, 0⟩ : Tk)).gPlace_Column)] #[.int .i64 ((xb.getD (i).toNat (⟨0, ByteArray.empty, 0, 0⟩ : Tk)).gKind), .string ((xb.getD (i).toNat (⟨0, ByteArray.empty, 0, 0⟩ : Tk)).gText), .int .i64 ((xb.getD (i).toNat (⟨0, ByteArray.empty, 0, 0⟩ : Tk)).gPlace_Line), .int .i64 ((xb.getD (i).toNat (⟨0, ByteArray.empty, 0, 0⟩ : Tk)).gPlace_Column)] ((((xa.getD (i).toNat (⟨0, ByteArray.empty, 0, 0⟩ : Tk)).gKind) == ((xb.getD (i).toNat (⟨0, ByteArray.empty, 0, 0⟩ : Tk)).gKind)) && ((((xa.getD (i).toNat (⟨0, ByteArray.empty, 0, 0⟩ : Tk)).gText).toList == ((xb.getD (i).toNat (⟨0, ByteArray.empty, 0, 0⟩ : Tk)).gText).toList) && (((((xa.getD (i).toNat (⟨0, ByteArray.empty, 0, 0⟩ : Tk)).gPlace_Line) == ((xb.getD (i).toNat (⟨0, ByteArray.empty, 0, 0⟩ : Tk)).gPlace_Line)) && ((((xa.getD (i).toNat (⟨0, ByteArray.empty, 0, 0⟩ : Tk)).gPlace_Column) == ((xb.getD (i).toNat (⟨0, ByteArray.empty, 0, 0⟩ : Tk)).gPlace_Column)) && true)) && true))) (by kernel_rfl) (by kernel_rfl) (by kernel_rfl) (!((((xa.getD (i).toNat (⟨0, ByteArray.empty, 0, 0⟩ : Tk)).gKind) == ((xb.getD (i).toNat (⟨0, ByteArray.empty, 0, 0⟩ : Tk)).gKind)) && ((((xa.getD (i).toNat (⟨0, ByteArray.empty, 0, 0⟩ : Tk)).gText).toList == ((xb.getD (i).toNat (⟨0, ByteArray.empty, 0, 0⟩ : Tk)).gText).toList) && ((((xa.getD (i).toNat (⟨0, ByteArray.empty, 0, 0⟩ : Tk)).gPlace_Line) == ((xb.getD (i).toNat (⟨0, ByteArray.empty, 0, 0⟩ : Tk)).gPlace_Line)) && (((xa.getD (i).toNat (⟨0, ByteArray.empty, 0, 0⟩ : Tk)).gPlace_Column) == ((xb.getD (i).toNat (⟨0, ByteArray.empty, 0, 0⟩ : Tk)).gPlace_Column)))))) (by simp)) ?_
        refine SL.done ?_
        refine TL.done (by kernel_rfl) ?_
        refine J.run 0 (rRest K12_3) [(25, .bool (!((((xa.getD (i).toNat (⟨0, ByteArray.empty, 0, 0⟩ : Tk)).gKind) == ((xb.getD (i).toNat (⟨0, ByteArray.empty, 0, 0⟩ : Tk)).gKind)) && ((((xa.getD (i).toNat (⟨0, ByteArray.empty, 0, 0⟩ : Tk)).gText).toList == ((xb.getD (i).toNat (⟨0, ByteArray.empty, 0, 0⟩ : Tk)).gText).toList) && ((((xa.getD (i).toNat (⟨0, ByteArray.empty, 0, 0⟩ : Tk)).gPlace_Line) == ((xb.getD (i).toNat (⟨0, ByteArray.empty, 0, 0⟩ : Tk)).gPlace_Line)) && (((xa.getD (i).toNat (⟨0, ByteArray.empty, 0, 0⟩ : Tk)).gPlace_Column) == ((xb.getD (i).toNat (⟨0, ByteArray.empty, 0, 0⟩ : Tk)).gPlace_Column))))))), (5, .int .i64 i), (0, .slice la na ca), (1, .slice lb nb cb)] w2 (by kernel_rfl) ?_
        rcases Bool.eq_false_or_eq_true ((((xa.getD (i).toNat (⟨0, ByteArray.empty, 0, 0⟩ : Tk)).gKind) == ((xb.getD (i).toNat (⟨0, ByteArray.empty, 0, 0⟩ : Tk)).gKind)) && ((((xa.getD (i).toNat (⟨0, ByteArray.empty, 0, 0⟩ : Tk)).gText).toList == ((xb.getD (i).toNat (⟨0, ByteArray.empty, 0, 0⟩ : Tk)).gText).toList) && ((((xa.getD (i).toNat (⟨0, ByteArray.empty, 0, 0⟩ : Tk)).gPlace_Line) == ((xb.getD (i).toNat (⟨0, ByteArray.empty, 0, 0⟩ : Tk)).gPlace_Line)) && (((xa.getD (i).toNat (⟨0, ByteArray.empty, 0, 0⟩ : Tk)).gPlace_Column) == ((xb.getD (i).toNat (⟨0, ByteArray.empty, 0, 0⟩ : Tk)).gPlace_Column))))) with fk3 | fk3
        · skip
          refine J.head (.bool false) (congrArg Value.bool (by rw [fk3]; rfl)) ?_
          refine J.run 6 K12_4 [(16, .int .i64 (IntKind.wrap .i64 (i + 1))), (0, .slice la na ca), (1, .slice lb nb cb)] w2 (by kernel_rfl) ?_
          refine J.head (.int .i64 (i + 1)) (congrArg (Value.int .i64) (IntWalk.i64_in _ (by omega))) ?_
          refine J.run 3 K12_1 [(5, .int .i64 (i + 1)), (0, .slice la na ca), (1, .slice lb nb cb)] w2 (by kernel_rfl) ?_
          refine J.run 0 K12_1 [(5, .int .i64 (i + 1)), (0, .slice la na ca), (1, .slice lb nb cb)] w2 (by kernel_rfl) ?_
          exact ih1 _ (show ((na : Int) - (i + 1)).toNat < mm1 from by omega) (i + 1) w2 (by omega) (by omega) (dg_step (q := fun j => eqTk (xa.getD j (⟨0, ByteArray.empty, 0, 0⟩ : Tk)) (xb.getD j (⟨0, ByteArray.empty, 0, 0⟩ : Tk)) = true) h0 hq (by unfold eqTk; exact fk3)) S2 rfl
        · skip
          refine J.head (.bool true) (congrArg Value.bool (by rw [fk3]; rfl)) ?_
          refine J.run 5 K12_5 [(4, .bool false)] w2 (by kernel_rfl) ?_
          refine J.ret Tryd.f12 [.bool false] Tryd.func12 ⟨by kernel_rfl, trivial⟩ ?_
          refine hR _ _ ?_
          exact ⟨congrArg Value.bool (sameT_bad (j := i.toNat) (by omega) (by unfold eqTk; exact fk3)).symm, S2.nil⟩
      · skip
        refine J.head (.bool false) (congrArg Value.bool (decide_eq_false fk2)) ?_
        refine J.run 6 K12_6 [(4, .bool true)] w1 (by kernel_rfl) ?_
        refine J.ret Tryd.f12 [.bool true] Tryd.func12 ⟨by kernel_rfl, trivial⟩ ?_
        refine hR _ _ ?_
        exact ⟨congrArg Value.bool (sameT_yes (by omega) fun j hj => hq j (by omega)).symm, S1.nil⟩
    exact L12_1 _ 0 w (by omega) (by omega) (by intro j hj; simp at hj) S0 rfl
  · skip
    refine J.head (.bool true) (congrArg Value.bool (bne_iff_ne.2 fk1)) ?_
    refine J.run 5 K12_7 [(4, .bool false)] w (by kernel_rfl) ?_
    refine J.ret Tryd.f12 [.bool false] Tryd.func12 ⟨by kernel_rfl, trivial⟩ ?_
    refine hR _ _ ?_
    exact ⟨congrArg Value.bool (sameT_no (by omega)).symm, S0.nil⟩

end Go.Proofs.YtlklealllohmgaaDoor
