/- Walks of functions of this seat, printed by a program over the engine. Conditions: as each theorem says. -/
import Derived.Test.YthhdaackhfffiaaDoorZxD15
namespace Go.Proofs.YthhdaackhfffiaaDoor
open Go.Eng Go.RowKit
set_option linter.unusedSimpArgs false
set_option linter.unusedVariables false
abbrev kvD16_1 : List Value := [iv 0, .bool false, .bool false]
theorem hb52 : HasBody Tryd.prog 52 := fun _ _ => by kernel_rfl
noncomputable def K52_0 : List Item := adv 12 [] (bodyOf Tryd.f52)
noncomputable def K52_1 : List Item := adv 1 [] K52_0
noncomputable def K52_2 : List Item := adv 14 [] (popK K52_1)
noncomputable def K52_3 : List Item := List.drop 1 K52_2
noncomputable def K52_4 : List Item := adv 7 [] K52_3
noncomputable def K52_5 : List Item := adv 20 [true] K52_4
noncomputable def K52_6 : List Item := adv 1 [] K52_4
noncomputable def K52_7 : List Item := adv 2 [] (popK K52_6)
noncomputable def K52_8 : List Item := adv 4 [] K52_7
noncomputable def K52_9 : List Item := adv 12 [true] K52_8
noncomputable def K52_10 : List Item := adv 5 [] K52_8
noncomputable def K52_11 : List Item := adv 7 [true] K52_10
noncomputable def K52_12 : List Item := adv 13 [false] K52_10
noncomputable def K52_13 : List Item := adv 8 [] K52_12
noncomputable def K52_14 : List Item := adv 9 [true] K52_13
noncomputable def K52_15 : List Item := adv 2 [] (popK K52_14)
noncomputable def K52_16 : List Item := adv 13 [true] K52_15
noncomputable def K52_17 : List Item := adv 2 [] K52_15
noncomputable def K52_18 : List Item := adv 3 [] (popK K52_17)
noncomputable def K52_19 : List Item := adv 7 [true] K52_18
noncomputable def K52_20 : List Item := adv 7 [false] K52_18
noncomputable def K52_21 : List Item := adv 4 [true] K52_20
noncomputable def K52_22 : List Item := adv 2 [] K52_21
noncomputable def K52_23 : List Item := adv 1 [] (popK K52_22)
noncomputable def K52_24 : List Item := adv 1 [] K52_23
noncomputable def K52_25 : List Item := adv 1 [] K52_24
noncomputable def K52_26 : List Item := adv 6 [] K52_25
noncomputable def K52_27 : List Item := adv 6 [false] K52_20
noncomputable def K52_28 : List Item := adv 7 [false] K52_13
noncomputable def K52_29 : List Item := adv 12 [false] K52_28
noncomputable def K52_30 : List Item := adv 22 [false] K52_7
noncomputable def K52_31 : List Item := adv 8 [] K52_30
noncomputable def K52_32 : List Item := adv 9 [true] K52_31
noncomputable def K52_33 : List Item := adv 2 [] (popK K52_32)
noncomputable def K52_34 : List Item := adv 13 [true] K52_33
noncomputable def K52_35 : List Item := adv 2 [] K52_33
noncomputable def K52_36 : List Item := adv 3 [] (popK K52_35)
noncomputable def K52_37 : List Item := adv 7 [true] K52_36
noncomputable def K52_38 : List Item := adv 7 [false] K52_36
noncomputable def K52_39 : List Item := adv 4 [true] K52_38
noncomputable def K52_40 : List Item := adv 2 [] K52_39
noncomputable def K52_41 : List Item := adv 1 [] (popK K52_40)
noncomputable def K52_42 : List Item := adv 1 [] K52_41
noncomputable def K52_43 : List Item := adv 1 [] K52_42
noncomputable def K52_44 : List Item := adv 6 [] K52_43
noncomputable def K52_45 : List Item := adv 6 [false] K52_38
noncomputable def K52_46 : List Item := adv 7 [false] K52_31
noncomputable def K52_47 : List Item := adv 4 [true] K52_46
noncomputable def K52_48 : List Item := adv 12 [] K52_47
noncomputable def K52_49 : List Item := adv 12 [false] K52_46
noncomputable def K52_50 : List Item := adv 3 [true] K52_2
noncomputable def K52_51 : List Item := adv 2 [] (popK K52_50)
noncomputable def K52_52 : List Item := adv 2 [false] K52_2
noncomputable def K52_53 : List Item := adv 16 [] K52_0
noncomputable def K52_54 : List Item := List.drop 1 K52_53
noncomputable def K52_55 : List Item := adv 7 [] K52_54
noncomputable def K52_56 : List Item := adv 20 [true] K52_55
noncomputable def K52_57 : List Item := adv 1 [] K52_55
noncomputable def K52_58 : List Item := adv 2 [] (popK K52_57)
noncomputable def K52_59 : List Item := adv 4 [] K52_58
noncomputable def K52_60 : List Item := adv 12 [true] K52_59
noncomputable def K52_61 : List Item := adv 5 [] K52_59
noncomputable def K52_62 : List Item := adv 7 [true] K52_61
noncomputable def K52_63 : List Item := adv 13 [false] K52_61
noncomputable def K52_64 : List Item := adv 8 [] K52_63
noncomputable def K52_65 : List Item := adv 9 [true] K52_64
noncomputable def K52_66 : List Item := adv 2 [] (popK K52_65)
noncomputable def K52_67 : List Item := adv 13 [true] K52_66
noncomputable def K52_68 : List Item := adv 2 [] K52_66
noncomputable def K52_69 : List Item := adv 3 [] (popK K52_68)
noncomputable def K52_70 : List Item := adv 7 [true] K52_69
noncomputable def K52_71 : List Item := adv 7 [false] K52_69
noncomputable def K52_72 : List Item := adv 4 [true] K52_71
noncomputable def K52_73 : List Item := adv 2 [] K52_72
noncomputable def K52_74 : List Item := adv 1 [] (popK K52_73)
noncomputable def K52_75 : List Item := adv 1 [] K52_74
noncomputable def K52_76 : List Item := adv 1 [] K52_75
noncomputable def K52_77 : List Item := adv 6 [] K52_76
noncomputable def K52_78 : List Item := adv 6 [false] K52_71
noncomputable def K52_79 : List Item := adv 7 [false] K52_64
noncomputable def K52_80 : List Item := adv 12 [false] K52_79
noncomputable def K52_81 : List Item := adv 22 [false] K52_58
noncomputable def K52_82 : List Item := adv 8 [] K52_81
noncomputable def K52_83 : List Item := adv 9 [true] K52_82
noncomputable def K52_84 : List Item := adv 2 [] (popK K52_83)
noncomputable def K52_85 : List Item := adv 13 [true] K52_84
noncomputable def K52_86 : List Item := adv 2 [] K52_84
noncomputable def K52_87 : List Item := adv 3 [] (popK K52_86)
noncomputable def K52_88 : List Item := adv 7 [true] K52_87
noncomputable def K52_89 : List Item := adv 7 [false] K52_87
noncomputable def K52_90 : List Item := adv 4 [true] K52_89
noncomputable def K52_91 : List Item := adv 2 [] K52_90
noncomputable def K52_92 : List Item := adv 1 [] (popK K52_91)
noncomputable def K52_93 : List Item := adv 1 [] K52_92
noncomputable def K52_94 : List Item := adv 1 [] K52_93
noncomputable def K52_95 : List Item := adv 6 [] K52_94
noncomputable def K52_96 : List Item := adv 6 [false] K52_89
noncomputable def K52_97 : List Item := adv 7 [false] K52_82
noncomputable def K52_98 : List Item := adv 4 [true] K52_97
noncomputable def K52_99 : List Item := adv 12 [] K52_98
noncomputable def K52_100 : List Item := adv 12 [false] K52_97
set_option maxRecDepth 20000 in
set_option maxHeartbeats 20000000 in
theorem read_any (s : ByteArray) (w : World) (hs : s.size ≤ 1099511627776) : Ret Tryd.prog 52 #[.string s] w (fun v w' => ∃ x, v = .tuple #[iv x, .bool (formL (ls s)), .bool (formL (ls s) && decide ((digL (ls s)).length ≤ 13))] ∧ ((formL (ls s) && decide ((digL (ls s)).length ≤ 13)) = true → x = valL (ls s)) ∧ (-10000000000000 < x ∧ x < 10000000000000) ∧ Sep w [] w') := by
 have S0 := Sep.refl w
 refine Ret.named fun R hR => ?_
 refine Ret.of_J (N := 70) [(0, .string s)] Tryd.func52 rfl rfl (Nat.le_of_ble_eq_true (by kernel_rfl)) (by kernel_rfl) ?_
 refine J.run 12 K52_0 [(12, .bool (decide ((s.size : Int) > 0))), (0, .string s)] w (by kernel_rfl) ?_
 by_cases fk1 : (s.size : Int) > 0
 ·skip
  refine J.head (.bool true) (congrArg Value.bool (decide_eq_true fk1)) ?_
  refine J.run 1 K52_1 [(13, .string s), (12, .bool true), (0, .string s)] w (by kernel_rfl) ?_
  have := byteAt_bounds s 0
  refine J.ok (OK.byte 14 9 s (0 : Int) (byteAt s 0) (by kernel_rfl) (by kernel_rfl) (by omega) (by omega) (rfl)) ?_
  refine J.run 14 K52_2 [(18, .bool ((byteAt s 0) == 45)), (6, .string s), (5, .bool ((byteAt s 0) == 45)), (0, .string s)] w (by kernel_rfl) ?_
  have X1 : ∀ (d : ByteArray) (mn : Bool) (w1 : World), (ls d = digL (ls s)) → ((d).size ≤ s.size) → (mn = false → s.size = (d).size) → (mn = true → s.size = (d).size + 1) → (mn = negL (ls s)) → Sep w [] w1 → J Tryd.prog 52 70 R K52_3 [(6, .string d), (5, .bool mn)] w1 := by
   intro d mn w1 hd hds hmf hms hmn S1
   refine J.run 7 K52_4 [(24, .bool ((d.size : Int) == 0)), (6, .string d), (5, .bool mn)] w1 (by kernel_rfl) ?_
   by_cases fk2 : (d.size : Int) = 0
   ·skip
    refine J.head (.bool true) (congrArg Value.bool (beq_iff_eq.2 fk2)) ?_
    refine J.run 20 K52_5 [(4, .bool false), (3, .bool false), (2, iv 0)] w1 (by kernel_rfl) ?_
    refine J.ret Tryd.f52 kvD16_1 Tryd.func52 ⟨by kernel_rfl, by kernel_rfl, by kernel_rfl, trivial⟩ ?_
    refine hR _ _ ?_
    have hf_ : formL (ls s) = false := form_bad1 hd (by omega)
    exact ⟨0, by rw [hf_]; rfl, (fun h_ => by rw [hf_] at h_; cases h_), (by omega), S1.nil⟩
   ·skip
    refine J.head (.bool false) (congrArg Value.bool (beq_eq_false_iff_ne.2 fk2)) ?_
    refine J.run 1 K52_6 [(25, .string d), (24, .bool false), (6, .string d), (5, .bool mn)] w1 (by kernel_rfl) ?_
    have := byteAt_bounds d 0
    refine J.ok (OK.byte 26 9 d (0 : Int) (byteAt d 0) (by kernel_rfl) (by kernel_rfl) (by omega) (by omega) (rfl)) ?_
    refine J.run 2 K52_7 [(28, .bool ((byteAt d 0) == 48)), (24, .bool false), (6, .string d), (5, .bool mn)] w1 (by kernel_rfl) ?_
    by_cases fk3 : (byteAt d 0) = 48
    ·skip
     refine J.head (.bool true) (congrArg Value.bool (beq_iff_eq.2 fk3)) ?_
     refine J.run 4 K52_8 [(32, .bool (decide ((d.size : Int) > 1))), (28, .bool true), (24, .bool false), (6, .string d), (5, .bool mn)] w1 (by kernel_rfl) ?_
     by_cases fk4 : (d.size : Int) > 1
     ·skip
      refine J.head (.bool true) (congrArg Value.bool (decide_eq_true fk4)) ?_
      refine J.run 12 K52_9 [(4, .bool false), (3, .bool false), (2, iv 0)] w1 (by kernel_rfl) ?_
      refine J.ret Tryd.f52 kvD16_1 Tryd.func52 ⟨by kernel_rfl, by kernel_rfl, by kernel_rfl, trivial⟩ ?_
      refine hR _ _ ?_
      have hf_ : formL (ls s) = false := form_bad1 hd (by omega)
      exact ⟨0, by rw [hf_]; rfl, (fun h_ => by rw [hf_] at h_; cases h_), (by omega), S1.nil⟩
     ·skip
      refine J.head (.bool false) (congrArg Value.bool (decide_eq_false fk4)) ?_
      refine J.run 5 K52_10 [(36, .bool mn), (6, .string d), (5, .bool mn)] w1 (by kernel_rfl) ?_
      rcases Bool.eq_false_or_eq_true mn with fk5 | fk5
      ·skip
       refine J.head (.bool true) (congrArg Value.bool fk5) ?_
       have hms2 := hms fk5
       refine J.run 7 K52_11 [(4, .bool false), (3, .bool false), (2, iv 0)] w1 (by kernel_rfl) ?_
       refine J.ret Tryd.f52 kvD16_1 Tryd.func52 ⟨by kernel_rfl, by kernel_rfl, by kernel_rfl, trivial⟩ ?_
       refine hR _ _ ?_
       have hf_ : formL (ls s) = false := form_bad1 hd (by omega)
       exact ⟨0, by rw [hf_]; rfl, (fun h_ => by rw [hf_] at h_; cases h_), (by omega), S1.nil⟩
      ·skip
       refine J.head (.bool false) (congrArg Value.bool fk5) ?_
       have hmf2 := hmf fk5
       refine J.run 13 K52_12 [(8, iv 0), (7, iv 0), (6, .string d), (5, .bool mn)] w1 (by kernel_rfl) ?_
       have L52_1 : ∀ (mm_ : Nat) (n : Int) (i : Int) (w2 : World), (0 ≤ i) → (i ≤ (d.size : Int)) → (0 ≤ n ∧ n < 10000000000000) → (∀ j, j < (i).toNat → 48 ≤ byteAt d j ∧ byteAt d j ≤ 57) → (n = (decV ((ls d).take (min (i).toNat 13)) : Int)) → Sep w [] w2 → ((d.size : Int) - i).toNat = mm_ → J Tryd.prog 52 70 R K52_12 [(8, iv i), (7, iv n), (6, .string d), (5, .bool mn)] w2 := by
        intro mm1
        induction mm1 using Nat.strongRecOn with
        | _ mm1 ih1 =>
        intro n i w2 h0 h1 hnn hq hm S2 hm1
        refine J.run 8 K52_13 [(40, .bool (decide (i < (d.size : Int)))), (8, iv i), (7, iv n), (6, .string d), (5, .bool mn)] w2 (by kernel_rfl) ?_
        by_cases fk6 : i < (d.size : Int)
        ·skip
         refine J.head (.bool true) (congrArg Value.bool (decide_eq_true fk6)) ?_
         refine J.run 9 K52_14 [(44, iv i), (43, .string d), (8, iv i), (7, iv n), (6, .string d), (5, .bool mn)] w2 (by kernel_rfl) ?_
         have := byteAt_bounds d (i).toNat
         refine J.ok (OK.byte 45 9 d i (byteAt d (i).toNat) (by kernel_rfl) (by kernel_rfl) (by omega) (by omega) (rfl)) ?_
         refine J.run 2 K52_15 [(47, .bool (decide ((byteAt d (i).toNat) < 48))), (8, iv i), (7, iv n), (6, .string d), (5, .bool mn)] w2 (by kernel_rfl) ?_
         by_cases fk7 : (byteAt d (i).toNat) < 48
         ·skip
          refine J.head (.bool true) (congrArg Value.bool (decide_eq_true fk7)) ?_
          refine J.run 13 K52_16 [(4, .bool false), (3, .bool false), (2, iv 0)] w2 (by kernel_rfl) ?_
          refine J.ret Tryd.f52 kvD16_1 Tryd.func52 ⟨by kernel_rfl, by kernel_rfl, by kernel_rfl, trivial⟩ ?_
          refine hR _ _ ?_
          have hf_ : formL (ls s) = false := form_bad2 hd (i := i.toNat) (by omega) (by omega)
          exact ⟨0, by rw [hf_]; rfl, (fun h_ => by rw [hf_] at h_; cases h_), (by omega), S2.nil⟩
         ·skip
          refine J.head (.bool false) (congrArg Value.bool (decide_eq_false fk7)) ?_
          refine J.run 2 K52_17 [(49, iv i), (48, .string d), (47, .bool false), (8, iv i), (7, iv n), (6, .string d), (5, .bool mn)] w2 (by kernel_rfl) ?_
          have := byteAt_bounds d (i).toNat
          refine J.ok (OK.byte 50 9 d i (byteAt d (i).toNat) (by kernel_rfl) (by kernel_rfl) (by omega) (by omega) (rfl)) ?_
          refine J.run 3 K52_18 [(52, .bool (decide ((byteAt d (i).toNat) > 57))), (8, iv i), (7, iv n), (6, .string d), (5, .bool mn)] w2 (by kernel_rfl) ?_
          by_cases fk8 : (byteAt d (i).toNat) > 57
          ·skip
           refine J.head (.bool true) (congrArg Value.bool (decide_eq_true fk8)) ?_
           refine J.run 7 K52_19 [(4, .bool false), (3, .bool false), (2, iv 0)] w2 (by kernel_rfl) ?_
           refine J.ret Tryd.f52 kvD16_1 Tryd.func52 ⟨by kernel_rfl, by kernel_rfl, by kernel_rfl, trivial⟩ ?_
           refine hR _ _ ?_
           have hf_ : formL (ls s) = false := form_bad2 hd (i := i.toNat) (by omega) (by omega)
           exact ⟨0, by rw [hf_]; rfl, (fun h_ => by rw [hf_] at h_; cases h_), (by omega), S2.nil⟩
          ·skip
           refine J.head (.bool false) (congrArg Value.bool (decide_eq_false fk8)) ?_
           refine J.run 7 K52_20 [(54, .bool (decide (i < 13))), (8, iv i), (7, iv n), (6, .string d), (5, .bool mn)] w2 (by kernel_rfl) ?_
           by_cases fk9 : i < 13
           ·skip
            refine J.head (.bool true) (congrArg Value.bool (decide_eq_true fk9)) ?_
            refine J.run 4 K52_21 [(56, iv (IntKind.wrap .i64 (10 * n))), (8, iv i), (6, .string d), (5, .bool mn)] w2 (by kernel_rfl) ?_
            refine J.head (iv (10 * n)) (congrArg (Value.int .i64) (IntWalk.i64_in _ (by omega))) ?_
            refine J.run 2 K52_22 [(58, iv i), (57, .string d), (56, iv (10 * n)), (8, iv i), (6, .string d), (5, .bool mn)] w2 (by kernel_rfl) ?_
            have := byteAt_bounds d (i).toNat
            refine J.ok (OK.byte 59 9 d i (byteAt d (i).toNat) (by kernel_rfl) (by kernel_rfl) (by omega) (by omega) (rfl)) ?_
            refine J.run 1 K52_23 [(60, .int .u8 (IntKind.wrap .u8 ((byteAt d (i).toNat) - 48))), (56, iv (10 * n)), (8, iv i), (6, .string d), (5, .bool mn)] w2 (by kernel_rfl) ?_
            refine J.head (.int .u8 ((byteAt d (i).toNat) - 48)) (congrArg (Value.int .u8) (IntWalk.u8_in _ (by omega))) ?_
            refine J.run 1 K52_24 [(61, iv (IntKind.wrap .i64 ((byteAt d (i).toNat) - 48))), (56, iv (10 * n)), (8, iv i), (6, .string d), (5, .bool mn)] w2 (by kernel_rfl) ?_
            refine J.head (iv ((byteAt d (i).toNat) - 48)) (congrArg (Value.int .i64) (IntWalk.i64_in _ (by omega))) ?_
            refine J.run 1 K52_25 [(62, iv (IntKind.wrap .i64 ((10 * n) + ((byteAt d (i).toNat) - 48)))), (8, iv i), (6, .string d), (5, .bool mn)] w2 (by kernel_rfl) ?_
            refine J.head (iv ((10 * n) + ((byteAt d (i).toNat) - 48))) (congrArg (Value.int .i64) (IntWalk.i64_in _ (by omega))) ?_
            refine J.run 6 K52_26 [(42, iv (IntKind.wrap .i64 (i + 1))), (7, iv ((10 * n) + ((byteAt d (i).toNat) - 48))), (6, .string d), (5, .bool mn)] w2 (by kernel_rfl) ?_
            refine J.head (iv (i + 1)) (congrArg (Value.int .i64) (IntWalk.i64_in _ (by omega))) ?_
            refine J.run 3 K52_12 [(8, iv (i + 1)), (7, iv ((10 * n) + ((byteAt d (i).toNat) - 48))), (6, .string d), (5, .bool mn)] w2 (by kernel_rfl) ?_
            refine J.run 0 K52_12 [(8, iv (i + 1)), (7, iv ((10 * n) + ((byteAt d (i).toNat) - 48))), (6, .string d), (5, .bool mn)] w2 (by kernel_rfl) ?_
            exact ih1 _ (show ((d.size : Int) - (i + 1)).toNat < mm1 from by omega) ((10 * n) + ((byteAt d (i).toNat) - 48)) (i + 1) w2 (by omega) (by omega) (⟨by omega, by rw [rd_step h0 (by omega) hm (by omega) (by omega)]; exact decV_pre (d := d) (i := (i + 1).toNat) (fun j hj => by by_cases e_ : j = i.toNat; (subst e_; omega); exact hq j (by omega)) (min (i + 1).toNat 13) (by omega) (by omega)⟩) (dg_step (q := fun j => 48 ≤ byteAt d j ∧ byteAt d j ≤ 57) h0 hq (by omega)) (rd_step h0 (by omega) hm (by omega) (by omega)) S2 rfl
           ·skip
            refine J.head (.bool false) (congrArg Value.bool (decide_eq_false fk9)) ?_
            refine J.run 6 K52_27 [(42, iv (IntKind.wrap .i64 (i + 1))), (7, iv n), (6, .string d), (5, .bool mn)] w2 (by kernel_rfl) ?_
            refine J.head (iv (i + 1)) (congrArg (Value.int .i64) (IntWalk.i64_in _ (by omega))) ?_
            refine J.run 3 K52_12 [(8, iv (i + 1)), (7, iv n), (6, .string d), (5, .bool mn)] w2 (by kernel_rfl) ?_
            refine J.run 0 K52_12 [(8, iv (i + 1)), (7, iv n), (6, .string d), (5, .bool mn)] w2 (by kernel_rfl) ?_
            exact ih1 _ (show ((d.size : Int) - (i + 1)).toNat < mm1 from by omega) n (i + 1) w2 (by omega) (by omega) (⟨by omega, by omega⟩) (dg_step (q := fun j => 48 ≤ byteAt d j ∧ byteAt d j ≤ 57) h0 hq (by omega)) (by rw [(min_ge (i := i) (by omega)).1] at hm; rw [(min_ge (i := i) (by omega)).2]; exact hm) S2 rfl
        ·skip
         refine J.head (.bool false) (congrArg Value.bool (decide_eq_false fk6)) ?_
         refine J.run 7 K52_28 [(63, .bool mn), (7, iv n), (6, .string d)] w2 (by kernel_rfl) ?_
         refine J.head (.bool false) (congrArg Value.bool fk5) ?_
         refine J.run 12 K52_29 [(4, .bool (decide ((d.size : Int) ≤ 13))), (3, .bool true), (2, iv n)] w2 (by kernel_rfl) ?_
         refine J.ret Tryd.f52 [iv n, .bool true, .bool (decide ((d.size : Int) ≤ 13))] Tryd.func52 ⟨by kernel_rfl, by kernel_rfl, by kernel_rfl, trivial⟩ ?_
         refine hR _ _ ?_
         have hqd : ∀ j, j < d.size → 48 ≤ byteAt d j ∧ byteAt d j ≤ 57 := fun j hj => hq j (by omega)
         have hf_ := form_good hd ⟨by omega, by omega⟩ hqd
         exact ⟨n, by rw [hf_, Bool.true_and, ← hd, ls_length, ← dec_sz]; rfl, (fun h_ => by rw [hf_, Bool.true_and, decide_eq_true_eq, ← hd, ls_length] at h_; rw [(fit_pos (m := n) (hmn.symm.trans fk5) (rd_all hd hm (by omega) (by omega))).2] <;> omega), (by have := decV_ten (d := d) hqd (min i.toNat 13) (by omega); omega), S2.nil⟩
       exact L52_1 _ 0 0 w1 (by omega) (by omega) (by omega) (by intro j hj; simp at hj) (rfl) S1 rfl
    ·skip
     refine J.head (.bool false) (congrArg Value.bool (beq_eq_false_iff_ne.2 fk3)) ?_
     refine J.run 22 K52_30 [(8, iv 0), (7, iv 0), (6, .string d), (5, .bool mn)] w1 (by kernel_rfl) ?_
     have L52_2 : ∀ (mm_ : Nat) (n : Int) (i : Int) (w3 : World), (0 ≤ i) → (i ≤ (d.size : Int)) → (0 ≤ n ∧ n < 10000000000000) → (∀ j, j < (i).toNat → 48 ≤ byteAt d j ∧ byteAt d j ≤ 57) → (n = (decV ((ls d).take (min (i).toNat 13)) : Int)) → Sep w [] w3 → ((d.size : Int) - i).toNat = mm_ → J Tryd.prog 52 70 R K52_30 [(8, iv i), (7, iv n), (6, .string d), (5, .bool mn)] w3 := by
      intro mm2
      induction mm2 using Nat.strongRecOn with
      | _ mm2 ih2 =>
      intro n i w3 h0 h1 hnn hq hm S3 hm2
      refine J.run 8 K52_31 [(40, .bool (decide (i < (d.size : Int)))), (8, iv i), (7, iv n), (6, .string d), (5, .bool mn)] w3 (by kernel_rfl) ?_
      by_cases fk11 : i < (d.size : Int)
      ·skip
       refine J.head (.bool true) (congrArg Value.bool (decide_eq_true fk11)) ?_
       refine J.run 9 K52_32 [(44, iv i), (43, .string d), (8, iv i), (7, iv n), (6, .string d), (5, .bool mn)] w3 (by kernel_rfl) ?_
       have := byteAt_bounds d (i).toNat
       refine J.ok (OK.byte 45 9 d i (byteAt d (i).toNat) (by kernel_rfl) (by kernel_rfl) (by omega) (by omega) (rfl)) ?_
       refine J.run 2 K52_33 [(47, .bool (decide ((byteAt d (i).toNat) < 48))), (8, iv i), (7, iv n), (6, .string d), (5, .bool mn)] w3 (by kernel_rfl) ?_
       by_cases fk12 : (byteAt d (i).toNat) < 48
       ·skip
        refine J.head (.bool true) (congrArg Value.bool (decide_eq_true fk12)) ?_
        refine J.run 13 K52_34 [(4, .bool false), (3, .bool false), (2, iv 0)] w3 (by kernel_rfl) ?_
        refine J.ret Tryd.f52 kvD16_1 Tryd.func52 ⟨by kernel_rfl, by kernel_rfl, by kernel_rfl, trivial⟩ ?_
        refine hR _ _ ?_
        have hf_ : formL (ls s) = false := form_bad2 hd (i := i.toNat) (by omega) (by omega)
        exact ⟨0, by rw [hf_]; rfl, (fun h_ => by rw [hf_] at h_; cases h_), (by omega), S3.nil⟩
       ·skip
        refine J.head (.bool false) (congrArg Value.bool (decide_eq_false fk12)) ?_
        refine J.run 2 K52_35 [(49, iv i), (48, .string d), (47, .bool false), (8, iv i), (7, iv n), (6, .string d), (5, .bool mn)] w3 (by kernel_rfl) ?_
        have := byteAt_bounds d (i).toNat
        refine J.ok (OK.byte 50 9 d i (byteAt d (i).toNat) (by kernel_rfl) (by kernel_rfl) (by omega) (by omega) (rfl)) ?_
        refine J.run 3 K52_36 [(52, .bool (decide ((byteAt d (i).toNat) > 57))), (8, iv i), (7, iv n), (6, .string d), (5, .bool mn)] w3 (by kernel_rfl) ?_
        by_cases fk13 : (byteAt d (i).toNat) > 57
        ·skip
         refine J.head (.bool true) (congrArg Value.bool (decide_eq_true fk13)) ?_
         refine J.run 7 K52_37 [(4, .bool false), (3, .bool false), (2, iv 0)] w3 (by kernel_rfl) ?_
         refine J.ret Tryd.f52 kvD16_1 Tryd.func52 ⟨by kernel_rfl, by kernel_rfl, by kernel_rfl, trivial⟩ ?_
         refine hR _ _ ?_
         have hf_ : formL (ls s) = false := form_bad2 hd (i := i.toNat) (by omega) (by omega)
         exact ⟨0, by rw [hf_]; rfl, (fun h_ => by rw [hf_] at h_; cases h_), (by omega), S3.nil⟩
        ·skip
         refine J.head (.bool false) (congrArg Value.bool (decide_eq_false fk13)) ?_
         refine J.run 7 K52_38 [(54, .bool (decide (i < 13))), (8, iv i), (7, iv n), (6, .string d), (5, .bool mn)] w3 (by kernel_rfl) ?_
         by_cases fk14 : i < 13
         ·skip
          refine J.head (.bool true) (congrArg Value.bool (decide_eq_true fk14)) ?_
          refine J.run 4 K52_39 [(56, iv (IntKind.wrap .i64 (10 * n))), (8, iv i), (6, .string d), (5, .bool mn)] w3 (by kernel_rfl) ?_
          refine J.head (iv (10 * n)) (congrArg (Value.int .i64) (IntWalk.i64_in _ (by omega))) ?_
          refine J.run 2 K52_40 [(58, iv i), (57, .string d), (56, iv (10 * n)), (8, iv i), (6, .string d), (5, .bool mn)] w3 (by kernel_rfl) ?_
          have := byteAt_bounds d (i).toNat
          refine J.ok (OK.byte 59 9 d i (byteAt d (i).toNat) (by kernel_rfl) (by kernel_rfl) (by omega) (by omega) (rfl)) ?_
          refine J.run 1 K52_41 [(60, .int .u8 (IntKind.wrap .u8 ((byteAt d (i).toNat) - 48))), (56, iv (10 * n)), (8, iv i), (6, .string d), (5, .bool mn)] w3 (by kernel_rfl) ?_
          refine J.head (.int .u8 ((byteAt d (i).toNat) - 48)) (congrArg (Value.int .u8) (IntWalk.u8_in _ (by omega))) ?_
          refine J.run 1 K52_42 [(61, iv (IntKind.wrap .i64 ((byteAt d (i).toNat) - 48))), (56, iv (10 * n)), (8, iv i), (6, .string d), (5, .bool mn)] w3 (by kernel_rfl) ?_
          refine J.head (iv ((byteAt d (i).toNat) - 48)) (congrArg (Value.int .i64) (IntWalk.i64_in _ (by omega))) ?_
          refine J.run 1 K52_43 [(62, iv (IntKind.wrap .i64 ((10 * n) + ((byteAt d (i).toNat) - 48)))), (8, iv i), (6, .string d), (5, .bool mn)] w3 (by kernel_rfl) ?_
          refine J.head (iv ((10 * n) + ((byteAt d (i).toNat) - 48))) (congrArg (Value.int .i64) (IntWalk.i64_in _ (by omega))) ?_
          refine J.run 6 K52_44 [(42, iv (IntKind.wrap .i64 (i + 1))), (7, iv ((10 * n) + ((byteAt d (i).toNat) - 48))), (6, .string d), (5, .bool mn)] w3 (by kernel_rfl) ?_
          refine J.head (iv (i + 1)) (congrArg (Value.int .i64) (IntWalk.i64_in _ (by omega))) ?_
          refine J.run 3 K52_30 [(8, iv (i + 1)), (7, iv ((10 * n) + ((byteAt d (i).toNat) - 48))), (6, .string d), (5, .bool mn)] w3 (by kernel_rfl) ?_
          refine J.run 0 K52_30 [(8, iv (i + 1)), (7, iv ((10 * n) + ((byteAt d (i).toNat) - 48))), (6, .string d), (5, .bool mn)] w3 (by kernel_rfl) ?_
          exact ih2 _ (show ((d.size : Int) - (i + 1)).toNat < mm2 from by omega) ((10 * n) + ((byteAt d (i).toNat) - 48)) (i + 1) w3 (by omega) (by omega) (⟨by omega, by rw [rd_step h0 (by omega) hm (by omega) (by omega)]; exact decV_pre (d := d) (i := (i + 1).toNat) (fun j hj => by by_cases e_ : j = i.toNat; (subst e_; omega); exact hq j (by omega)) (min (i + 1).toNat 13) (by omega) (by omega)⟩) (dg_step (q := fun j => 48 ≤ byteAt d j ∧ byteAt d j ≤ 57) h0 hq (by omega)) (rd_step h0 (by omega) hm (by omega) (by omega)) S3 rfl
         ·skip
          refine J.head (.bool false) (congrArg Value.bool (decide_eq_false fk14)) ?_
          refine J.run 6 K52_45 [(42, iv (IntKind.wrap .i64 (i + 1))), (7, iv n), (6, .string d), (5, .bool mn)] w3 (by kernel_rfl) ?_
          refine J.head (iv (i + 1)) (congrArg (Value.int .i64) (IntWalk.i64_in _ (by omega))) ?_
          refine J.run 3 K52_30 [(8, iv (i + 1)), (7, iv n), (6, .string d), (5, .bool mn)] w3 (by kernel_rfl) ?_
          refine J.run 0 K52_30 [(8, iv (i + 1)), (7, iv n), (6, .string d), (5, .bool mn)] w3 (by kernel_rfl) ?_
          exact ih2 _ (show ((d.size : Int) - (i + 1)).toNat < mm2 from by omega) n (i + 1) w3 (by omega) (by omega) (⟨by omega, by omega⟩) (dg_step (q := fun j => 48 ≤ byteAt d j ∧ byteAt d j ≤ 57) h0 hq (by omega)) (by rw [(min_ge (i := i) (by omega)).1] at hm; rw [(min_ge (i := i) (by omega)).2]; exact hm) S3 rfl
      ·skip
       refine J.head (.bool false) (congrArg Value.bool (decide_eq_false fk11)) ?_
       refine J.run 7 K52_46 [(63, .bool mn), (7, iv n), (6, .string d)] w3 (by kernel_rfl) ?_
       rcases Bool.eq_false_or_eq_true mn with fk15 | fk15
       ·skip
        refine J.head (.bool true) (congrArg Value.bool fk15) ?_
        have hms2 := hms fk15
        refine J.run 4 K52_47 [(65, iv (IntKind.wrap .i64 (0 - n))), (6, .string d)] w3 (by kernel_rfl) ?_
        refine J.head (iv (0 - n)) (congrArg (Value.int .i64) (IntWalk.i64_in _ (by omega))) ?_
        refine J.run 12 K52_48 [(4, .bool (decide ((d.size : Int) ≤ 13))), (3, .bool true), (2, iv (0 - n))] w3 (by kernel_rfl) ?_
        refine J.ret Tryd.f52 [iv (0 - n), .bool true, .bool (decide ((d.size : Int) ≤ 13))] Tryd.func52 ⟨by kernel_rfl, by kernel_rfl, by kernel_rfl, trivial⟩ ?_
        refine hR _ _ ?_
        have hqd : ∀ j, j < d.size → 48 ≤ byteAt d j ∧ byteAt d j ≤ 57 := fun j hj => hq j (by omega)
        have hf_ := form_good hd ⟨by omega, by omega⟩ hqd
        exact ⟨(0 - n), by rw [hf_, Bool.true_and, ← hd, ls_length, ← dec_sz]; rfl, (fun h_ => by rw [hf_, Bool.true_and, decide_eq_true_eq, ← hd, ls_length] at h_; rw [(fit_neg (m := n) (hmn.symm.trans fk15) (rd_all hd hm (by omega) (by omega))).2] <;> omega), (by have := decV_ten (d := d) hqd (min i.toNat 13) (by omega); omega), S3.nil⟩
       ·skip
        refine J.head (.bool false) (congrArg Value.bool fk15) ?_
        have hmf2 := hmf fk15
        refine J.run 12 K52_49 [(4, .bool (decide ((d.size : Int) ≤ 13))), (3, .bool true), (2, iv n)] w3 (by kernel_rfl) ?_
        refine J.ret Tryd.f52 [iv n, .bool true, .bool (decide ((d.size : Int) ≤ 13))] Tryd.func52 ⟨by kernel_rfl, by kernel_rfl, by kernel_rfl, trivial⟩ ?_
        refine hR _ _ ?_
        have hqd : ∀ j, j < d.size → 48 ≤ byteAt d j ∧ byteAt d j ≤ 57 := fun j hj => hq j (by omega)
        have hf_ := form_good hd ⟨by omega, by omega⟩ hqd
        exact ⟨n, by rw [hf_, Bool.true_and, ← hd, ls_length, ← dec_sz]; rfl, (fun h_ => by rw [hf_, Bool.true_and, decide_eq_true_eq, ← hd, ls_length] at h_; rw [(fit_pos (m := n) (hmn.symm.trans fk15) (rd_all hd hm (by omega) (by omega))).2] <;> omega), (by have := decV_ten (d := d) hqd (min i.toNat 13) (by omega); omega), S3.nil⟩
     exact L52_2 _ 0 0 w1 (by omega) (by omega) (by omega) (by intro j hj; simp at hj) (rfl) S1 rfl
  by_cases fk16 : (byteAt s 0) = 45
  ·skip
   refine J.head (.bool true) (congrArg Value.bool (beq_iff_eq.2 fk16)) ?_
   refine J.run 3 K52_50 [(19, .string s), (5, .bool ((byteAt s 0) == 45))] w (by kernel_rfl) ?_
   refine J.ok (OK.sliceT 20 9 s (some (iv 1)) none 1 s.size (by kernel_rfl) (by kernel_rfl) (.inr ⟨_, _, rfl, rfl⟩) (.inl ⟨rfl, rfl⟩) (by first | omega | (simp; omega)) (by first | omega | (simp; omega))) ?_
   have := size_extract s (i := 1) (j := s.size) (by first | omega | (simp; omega))
   refine J.run 2 K52_51 [(5, .bool ((byteAt s 0) == 45)), (6, .string (s.extract 1 s.size))] w (by kernel_rfl) ?_
   refine J.head (.bool true) (congrArg Value.bool (beq_iff_eq.2 fk16)) ?_
   refine J.run 0 K52_3 [(6, .string (s.extract 1 s.size)), (5, .bool true)] w (by kernel_rfl) ?_
   exact X1 (s.extract 1 s.size) true w (by first | exact (dig_minus (by omega) (by omega)).1 | exact (dig_plain (by omega)).1) (by first | omega | (rw [size_extract s (Nat.le_refl _)]; omega)) ((by first | (intro h_; cases h_; done) | (intro h_; rfl))) ((by first | (intro h_; cases h_; done) | (intro h_; rw [size_extract s (Nat.le_refl _)]; omega))) ((by first | exact (dig_minus (by omega) (by omega)).2.symm | exact (dig_plain (by omega)).2.symm)) S0
  ·skip
   refine J.head (.bool false) (congrArg Value.bool (beq_eq_false_iff_ne.2 fk16)) ?_
   refine J.run 2 K52_52 [(5, .bool ((byteAt s 0) == 45)), (6, .string s)] w (by kernel_rfl) ?_
   refine J.head (.bool false) (congrArg Value.bool (beq_eq_false_iff_ne.2 fk16)) ?_
   refine J.run 0 K52_3 [(6, .string s), (5, .bool false)] w (by kernel_rfl) ?_
   exact X1 s false w (by first | exact (dig_minus (by omega) (by omega)).1 | exact (dig_plain (by omega)).1) (by first | omega | (rw [size_extract s (Nat.le_refl _)]; omega)) ((by first | (intro h_; cases h_; done) | (intro h_; rfl))) ((by first | (intro h_; cases h_; done) | (intro h_; rw [size_extract s (Nat.le_refl _)]; omega))) ((by first | exact (dig_minus (by omega) (by omega)).2.symm | exact (dig_plain (by omega)).2.symm)) S0
 ·skip
  refine J.head (.bool false) (congrArg Value.bool (decide_eq_false fk1)) ?_
  refine J.run 16 K52_53 [(18, .bool false), (6, .string s), (5, .bool false), (0, .string s)] w (by kernel_rfl) ?_
  have X2 : ∀ (d : ByteArray) (mn : Bool) (w4 : World), (ls d = digL (ls s)) → ((d).size ≤ s.size) → (mn = false → s.size = (d).size) → (mn = true → s.size = (d).size + 1) → (mn = negL (ls s)) → Sep w [] w4 → J Tryd.prog 52 70 R K52_54 [(6, .string d), (5, .bool mn)] w4 := by
   intro d mn w4 hd hds hmf hms hmn S4
   refine J.run 7 K52_55 [(24, .bool ((d.size : Int) == 0)), (6, .string d), (5, .bool mn)] w4 (by kernel_rfl) ?_
   by_cases fk17 : (d.size : Int) = 0
   ·skip
    refine J.head (.bool true) (congrArg Value.bool (beq_iff_eq.2 fk17)) ?_
    refine J.run 20 K52_56 [(4, .bool false), (3, .bool false), (2, iv 0)] w4 (by kernel_rfl) ?_
    refine J.ret Tryd.f52 kvD16_1 Tryd.func52 ⟨by kernel_rfl, by kernel_rfl, by kernel_rfl, trivial⟩ ?_
    refine hR _ _ ?_
    have hf_ : formL (ls s) = false := form_bad1 hd (by omega)
    exact ⟨0, by rw [hf_]; rfl, (fun h_ => by rw [hf_] at h_; cases h_), (by omega), S4.nil⟩
   ·skip
    refine J.head (.bool false) (congrArg Value.bool (beq_eq_false_iff_ne.2 fk17)) ?_
    refine J.run 1 K52_57 [(25, .string d), (24, .bool false), (6, .string d), (5, .bool mn)] w4 (by kernel_rfl) ?_
    have := byteAt_bounds d 0
    refine J.ok (OK.byte 26 9 d (0 : Int) (byteAt d 0) (by kernel_rfl) (by kernel_rfl) (by omega) (by omega) (rfl)) ?_
    refine J.run 2 K52_58 [(28, .bool ((byteAt d 0) == 48)), (24, .bool false), (6, .string d), (5, .bool mn)] w4 (by kernel_rfl) ?_
    by_cases fk18 : (byteAt d 0) = 48
    ·skip
     refine J.head (.bool true) (congrArg Value.bool (beq_iff_eq.2 fk18)) ?_
     refine J.run 4 K52_59 [(32, .bool (decide ((d.size : Int) > 1))), (28, .bool true), (24, .bool false), (6, .string d), (5, .bool mn)] w4 (by kernel_rfl) ?_
     by_cases fk19 : (d.size : Int) > 1
     ·skip
      refine J.head (.bool true) (congrArg Value.bool (decide_eq_true fk19)) ?_
      refine J.run 12 K52_60 [(4, .bool false), (3, .bool false), (2, iv 0)] w4 (by kernel_rfl) ?_
      refine J.ret Tryd.f52 kvD16_1 Tryd.func52 ⟨by kernel_rfl, by kernel_rfl, by kernel_rfl, trivial⟩ ?_
      refine hR _ _ ?_
      have hf_ : formL (ls s) = false := form_bad1 hd (by omega)
      exact ⟨0, by rw [hf_]; rfl, (fun h_ => by rw [hf_] at h_; cases h_), (by omega), S4.nil⟩
     ·skip
      refine J.head (.bool false) (congrArg Value.bool (decide_eq_false fk19)) ?_
      refine J.run 5 K52_61 [(36, .bool mn), (6, .string d), (5, .bool mn)] w4 (by kernel_rfl) ?_
      rcases Bool.eq_false_or_eq_true mn with fk20 | fk20
      ·skip
       refine J.head (.bool true) (congrArg Value.bool fk20) ?_
       have hms2 := hms fk20
       refine J.run 7 K52_62 [(4, .bool false), (3, .bool false), (2, iv 0)] w4 (by kernel_rfl) ?_
       refine J.ret Tryd.f52 kvD16_1 Tryd.func52 ⟨by kernel_rfl, by kernel_rfl, by kernel_rfl, trivial⟩ ?_
       refine hR _ _ ?_
       have hf_ : formL (ls s) = false := form_bad1 hd (by omega)
       exact ⟨0, by rw [hf_]; rfl, (fun h_ => by rw [hf_] at h_; cases h_), (by omega), S4.nil⟩
      ·skip
       refine J.head (.bool false) (congrArg Value.bool fk20) ?_
       have hmf2 := hmf fk20
       refine J.run 13 K52_63 [(8, iv 0), (7, iv 0), (6, .string d), (5, .bool mn)] w4 (by kernel_rfl) ?_
       have L52_3 : ∀ (mm_ : Nat) (n : Int) (i : Int) (w5 : World), (0 ≤ i) → (i ≤ (d.size : Int)) → (0 ≤ n ∧ n < 10000000000000) → (∀ j, j < (i).toNat → 48 ≤ byteAt d j ∧ byteAt d j ≤ 57) → (n = (decV ((ls d).take (min (i).toNat 13)) : Int)) → Sep w [] w5 → ((d.size : Int) - i).toNat = mm_ → J Tryd.prog 52 70 R K52_63 [(8, iv i), (7, iv n), (6, .string d), (5, .bool mn)] w5 := by
        intro mm3
        induction mm3 using Nat.strongRecOn with
        | _ mm3 ih3 =>
        intro n i w5 h0 h1 hnn hq hm S5 hm3
        refine J.run 8 K52_64 [(40, .bool (decide (i < (d.size : Int)))), (8, iv i), (7, iv n), (6, .string d), (5, .bool mn)] w5 (by kernel_rfl) ?_
        by_cases fk21 : i < (d.size : Int)
        ·skip
         refine J.head (.bool true) (congrArg Value.bool (decide_eq_true fk21)) ?_
         refine J.run 9 K52_65 [(44, iv i), (43, .string d), (8, iv i), (7, iv n), (6, .string d), (5, .bool mn)] w5 (by kernel_rfl) ?_
         have := byteAt_bounds d (i).toNat
         refine J.ok (OK.byte 45 9 d i (byteAt d (i).toNat) (by kernel_rfl) (by kernel_rfl) (by omega) (by omega) (rfl)) ?_
         refine J.run 2 K52_66 [(47, .bool (decide ((byteAt d (i).toNat) < 48))), (8, iv i), (7, iv n), (6, .string d), (5, .bool mn)] w5 (by kernel_rfl) ?_
         by_cases fk22 : (byteAt d (i).toNat) < 48
         ·skip
          refine J.head (.bool true) (congrArg Value.bool (decide_eq_true fk22)) ?_
          refine J.run 13 K52_67 [(4, .bool false), (3, .bool false), (2, iv 0)] w5 (by kernel_rfl) ?_
          refine J.ret Tryd.f52 kvD16_1 Tryd.func52 ⟨by kernel_rfl, by kernel_rfl, by kernel_rfl, trivial⟩ ?_
          refine hR _ _ ?_
          have hf_ : formL (ls s) = false := form_bad2 hd (i := i.toNat) (by omega) (by omega)
          exact ⟨0, by rw [hf_]; rfl, (fun h_ => by rw [hf_] at h_; cases h_), (by omega), S5.nil⟩
         ·skip
          refine J.head (.bool false) (congrArg Value.bool (decide_eq_false fk22)) ?_
          refine J.run 2 K52_68 [(49, iv i), (48, .string d), (47, .bool false), (8, iv i), (7, iv n), (6, .string d), (5, .bool mn)] w5 (by kernel_rfl) ?_
          have := byteAt_bounds d (i).toNat
          refine J.ok (OK.byte 50 9 d i (byteAt d (i).toNat) (by kernel_rfl) (by kernel_rfl) (by omega) (by omega) (rfl)) ?_
          refine J.run 3 K52_69 [(52, .bool (decide ((byteAt d (i).toNat) > 57))), (8, iv i), (7, iv n), (6, .string d), (5, .bool mn)] w5 (by kernel_rfl) ?_
          by_cases fk23 : (byteAt d (i).toNat) > 57
          ·skip
           refine J.head (.bool true) (congrArg Value.bool (decide_eq_true fk23)) ?_
           refine J.run 7 K52_70 [(4, .bool false), (3, .bool false), (2, iv 0)] w5 (by kernel_rfl) ?_
           refine J.ret Tryd.f52 kvD16_1 Tryd.func52 ⟨by kernel_rfl, by kernel_rfl, by kernel_rfl, trivial⟩ ?_
           refine hR _ _ ?_
           have hf_ : formL (ls s) = false := form_bad2 hd (i := i.toNat) (by omega) (by omega)
           exact ⟨0, by rw [hf_]; rfl, (fun h_ => by rw [hf_] at h_; cases h_), (by omega), S5.nil⟩
          ·skip
           refine J.head (.bool false) (congrArg Value.bool (decide_eq_false fk23)) ?_
           refine J.run 7 K52_71 [(54, .bool (decide (i < 13))), (8, iv i), (7, iv n), (6, .string d), (5, .bool mn)] w5 (by kernel_rfl) ?_
           by_cases fk24 : i < 13
           ·skip
            refine J.head (.bool true) (congrArg Value.bool (decide_eq_true fk24)) ?_
            refine J.run 4 K52_72 [(56, iv (IntKind.wrap .i64 (10 * n))), (8, iv i), (6, .string d), (5, .bool mn)] w5 (by kernel_rfl) ?_
            refine J.head (iv (10 * n)) (congrArg (Value.int .i64) (IntWalk.i64_in _ (by omega))) ?_
            refine J.run 2 K52_73 [(58, iv i), (57, .string d), (56, iv (10 * n)), (8, iv i), (6, .string d), (5, .bool mn)] w5 (by kernel_rfl) ?_
            have := byteAt_bounds d (i).toNat
            refine J.ok (OK.byte 59 9 d i (byteAt d (i).toNat) (by kernel_rfl) (by kernel_rfl) (by omega) (by omega) (rfl)) ?_
            refine J.run 1 K52_74 [(60, .int .u8 (IntKind.wrap .u8 ((byteAt d (i).toNat) - 48))), (56, iv (10 * n)), (8, iv i), (6, .string d), (5, .bool mn)] w5 (by kernel_rfl) ?_
            refine J.head (.int .u8 ((byteAt d (i).toNat) - 48)) (congrArg (Value.int .u8) (IntWalk.u8_in _ (by omega))) ?_
            refine J.run 1 K52_75 [(61, iv (IntKind.wrap .i64 ((byteAt d (i).toNat) - 48))), (56, iv (10 * n)), (8, iv i), (6, .string d), (5, .bool mn)] w5 (by kernel_rfl) ?_
            refine J.head (iv ((byteAt d (i).toNat) - 48)) (congrArg (Value.int .i64) (IntWalk.i64_in _ (by omega))) ?_
            refine J.run 1 K52_76 [(62, iv (IntKind.wrap .i64 ((10 * n) + ((byteAt d (i).toNat) - 48)))), (8, iv i), (6, .string d), (5, .bool mn)] w5 (by kernel_rfl) ?_
            refine J.head (iv ((10 * n) + ((byteAt d (i).toNat) - 48))) (congrArg (Value.int .i64) (IntWalk.i64_in _ (by omega))) ?_
            refine J.run 6 K52_77 [(42, iv (IntKind.wrap .i64 (i + 1))), (7, iv ((10 * n) + ((byteAt d (i).toNat) - 48))), (6, .string d), (5, .bool mn)] w5 (by kernel_rfl) ?_
            refine J.head (iv (i + 1)) (congrArg (Value.int .i64) (IntWalk.i64_in _ (by omega))) ?_
            refine J.run 3 K52_63 [(8, iv (i + 1)), (7, iv ((10 * n) + ((byteAt d (i).toNat) - 48))), (6, .string d), (5, .bool mn)] w5 (by kernel_rfl) ?_
            refine J.run 0 K52_63 [(8, iv (i + 1)), (7, iv ((10 * n) + ((byteAt d (i).toNat) - 48))), (6, .string d), (5, .bool mn)] w5 (by kernel_rfl) ?_
            exact ih3 _ (show ((d.size : Int) - (i + 1)).toNat < mm3 from by omega) ((10 * n) + ((byteAt d (i).toNat) - 48)) (i + 1) w5 (by omega) (by omega) (⟨by omega, by rw [rd_step h0 (by omega) hm (by omega) (by omega)]; exact decV_pre (d := d) (i := (i + 1).toNat) (fun j hj => by by_cases e_ : j = i.toNat; (subst e_; omega); exact hq j (by omega)) (min (i + 1).toNat 13) (by omega) (by omega)⟩) (dg_step (q := fun j => 48 ≤ byteAt d j ∧ byteAt d j ≤ 57) h0 hq (by omega)) (rd_step h0 (by omega) hm (by omega) (by omega)) S5 rfl
           ·skip
            refine J.head (.bool false) (congrArg Value.bool (decide_eq_false fk24)) ?_
            refine J.run 6 K52_78 [(42, iv (IntKind.wrap .i64 (i + 1))), (7, iv n), (6, .string d), (5, .bool mn)] w5 (by kernel_rfl) ?_
            refine J.head (iv (i + 1)) (congrArg (Value.int .i64) (IntWalk.i64_in _ (by omega))) ?_
            refine J.run 3 K52_63 [(8, iv (i + 1)), (7, iv n), (6, .string d), (5, .bool mn)] w5 (by kernel_rfl) ?_
            refine J.run 0 K52_63 [(8, iv (i + 1)), (7, iv n), (6, .string d), (5, .bool mn)] w5 (by kernel_rfl) ?_
            exact ih3 _ (show ((d.size : Int) - (i + 1)).toNat < mm3 from by omega) n (i + 1) w5 (by omega) (by omega) (⟨by omega, by omega⟩) (dg_step (q := fun j => 48 ≤ byteAt d j ∧ byteAt d j ≤ 57) h0 hq (by omega)) (by rw [(min_ge (i := i) (by omega)).1] at hm; rw [(min_ge (i := i) (by omega)).2]; exact hm) S5 rfl
        ·skip
         refine J.head (.bool false) (congrArg Value.bool (decide_eq_false fk21)) ?_
         refine J.run 7 K52_79 [(63, .bool mn), (7, iv n), (6, .string d)] w5 (by kernel_rfl) ?_
         refine J.head (.bool false) (congrArg Value.bool fk20) ?_
         refine J.run 12 K52_80 [(4, .bool (decide ((d.size : Int) ≤ 13))), (3, .bool true), (2, iv n)] w5 (by kernel_rfl) ?_
         refine J.ret Tryd.f52 [iv n, .bool true, .bool (decide ((d.size : Int) ≤ 13))] Tryd.func52 ⟨by kernel_rfl, by kernel_rfl, by kernel_rfl, trivial⟩ ?_
         refine hR _ _ ?_
         have hqd : ∀ j, j < d.size → 48 ≤ byteAt d j ∧ byteAt d j ≤ 57 := fun j hj => hq j (by omega)
         have hf_ := form_good hd ⟨by omega, by omega⟩ hqd
         exact ⟨n, by rw [hf_, Bool.true_and, ← hd, ls_length, ← dec_sz]; rfl, (fun h_ => by rw [hf_, Bool.true_and, decide_eq_true_eq, ← hd, ls_length] at h_; rw [(fit_pos (m := n) (hmn.symm.trans fk20) (rd_all hd hm (by omega) (by omega))).2] <;> omega), (by have := decV_ten (d := d) hqd (min i.toNat 13) (by omega); omega), S5.nil⟩
       exact L52_3 _ 0 0 w4 (by omega) (by omega) (by omega) (by intro j hj; simp at hj) (rfl) S4 rfl
    ·skip
     refine J.head (.bool false) (congrArg Value.bool (beq_eq_false_iff_ne.2 fk18)) ?_
     refine J.run 22 K52_81 [(8, iv 0), (7, iv 0), (6, .string d), (5, .bool mn)] w4 (by kernel_rfl) ?_
     have L52_4 : ∀ (mm_ : Nat) (n : Int) (i : Int) (w6 : World), (0 ≤ i) → (i ≤ (d.size : Int)) → (0 ≤ n ∧ n < 10000000000000) → (∀ j, j < (i).toNat → 48 ≤ byteAt d j ∧ byteAt d j ≤ 57) → (n = (decV ((ls d).take (min (i).toNat 13)) : Int)) → Sep w [] w6 → ((d.size : Int) - i).toNat = mm_ → J Tryd.prog 52 70 R K52_81 [(8, iv i), (7, iv n), (6, .string d), (5, .bool mn)] w6 := by
      intro mm4
      induction mm4 using Nat.strongRecOn with
      | _ mm4 ih4 =>
      intro n i w6 h0 h1 hnn hq hm S6 hm4
      refine J.run 8 K52_82 [(40, .bool (decide (i < (d.size : Int)))), (8, iv i), (7, iv n), (6, .string d), (5, .bool mn)] w6 (by kernel_rfl) ?_
      by_cases fk26 : i < (d.size : Int)
      ·skip
       refine J.head (.bool true) (congrArg Value.bool (decide_eq_true fk26)) ?_
       refine J.run 9 K52_83 [(44, iv i), (43, .string d), (8, iv i), (7, iv n), (6, .string d), (5, .bool mn)] w6 (by kernel_rfl) ?_
       have := byteAt_bounds d (i).toNat
       refine J.ok (OK.byte 45 9 d i (byteAt d (i).toNat) (by kernel_rfl) (by kernel_rfl) (by omega) (by omega) (rfl)) ?_
       refine J.run 2 K52_84 [(47, .bool (decide ((byteAt d (i).toNat) < 48))), (8, iv i), (7, iv n), (6, .string d), (5, .bool mn)] w6 (by kernel_rfl) ?_
       by_cases fk27 : (byteAt d (i).toNat) < 48
       ·skip
        refine J.head (.bool true) (congrArg Value.bool (decide_eq_true fk27)) ?_
        refine J.run 13 K52_85 [(4, .bool false), (3, .bool false), (2, iv 0)] w6 (by kernel_rfl) ?_
        refine J.ret Tryd.f52 kvD16_1 Tryd.func52 ⟨by kernel_rfl, by kernel_rfl, by kernel_rfl, trivial⟩ ?_
        refine hR _ _ ?_
        have hf_ : formL (ls s) = false := form_bad2 hd (i := i.toNat) (by omega) (by omega)
        exact ⟨0, by rw [hf_]; rfl, (fun h_ => by rw [hf_] at h_; cases h_), (by omega), S6.nil⟩
       ·skip
        refine J.head (.bool false) (congrArg Value.bool (decide_eq_false fk27)) ?_
        refine J.run 2 K52_86 [(49, iv i), (48, .string d), (47, .bool false), (8, iv i), (7, iv n), (6, .string d), (5, .bool mn)] w6 (by kernel_rfl) ?_
        have := byteAt_bounds d (i).toNat
        refine J.ok (OK.byte 50 9 d i (byteAt d (i).toNat) (by kernel_rfl) (by kernel_rfl) (by omega) (by omega) (rfl)) ?_
        refine J.run 3 K52_87 [(52, .bool (decide ((byteAt d (i).toNat) > 57))), (8, iv i), (7, iv n), (6, .string d), (5, .bool mn)] w6 (by kernel_rfl) ?_
        by_cases fk28 : (byteAt d (i).toNat) > 57
        ·skip
         refine J.head (.bool true) (congrArg Value.bool (decide_eq_true fk28)) ?_
         refine J.run 7 K52_88 [(4, .bool false), (3, .bool false), (2, iv 0)] w6 (by kernel_rfl) ?_
         refine J.ret Tryd.f52 kvD16_1 Tryd.func52 ⟨by kernel_rfl, by kernel_rfl, by kernel_rfl, trivial⟩ ?_
         refine hR _ _ ?_
         have hf_ : formL (ls s) = false := form_bad2 hd (i := i.toNat) (by omega) (by omega)
         exact ⟨0, by rw [hf_]; rfl, (fun h_ => by rw [hf_] at h_; cases h_), (by omega), S6.nil⟩
        ·skip
         refine J.head (.bool false) (congrArg Value.bool (decide_eq_false fk28)) ?_
         refine J.run 7 K52_89 [(54, .bool (decide (i < 13))), (8, iv i), (7, iv n), (6, .string d), (5, .bool mn)] w6 (by kernel_rfl) ?_
         by_cases fk29 : i < 13
         ·skip
          refine J.head (.bool true) (congrArg Value.bool (decide_eq_true fk29)) ?_
          refine J.run 4 K52_90 [(56, iv (IntKind.wrap .i64 (10 * n))), (8, iv i), (6, .string d), (5, .bool mn)] w6 (by kernel_rfl) ?_
          refine J.head (iv (10 * n)) (congrArg (Value.int .i64) (IntWalk.i64_in _ (by omega))) ?_
          refine J.run 2 K52_91 [(58, iv i), (57, .string d), (56, iv (10 * n)), (8, iv i), (6, .string d), (5, .bool mn)] w6 (by kernel_rfl) ?_
          have := byteAt_bounds d (i).toNat
          refine J.ok (OK.byte 59 9 d i (byteAt d (i).toNat) (by kernel_rfl) (by kernel_rfl) (by omega) (by omega) (rfl)) ?_
          refine J.run 1 K52_92 [(60, .int .u8 (IntKind.wrap .u8 ((byteAt d (i).toNat) - 48))), (56, iv (10 * n)), (8, iv i), (6, .string d), (5, .bool mn)] w6 (by kernel_rfl) ?_
          refine J.head (.int .u8 ((byteAt d (i).toNat) - 48)) (congrArg (Value.int .u8) (IntWalk.u8_in _ (by omega))) ?_
          refine J.run 1 K52_93 [(61, iv (IntKind.wrap .i64 ((byteAt d (i).toNat) - 48))), (56, iv (10 * n)), (8, iv i), (6, .string d), (5, .bool mn)] w6 (by kernel_rfl) ?_
          refine J.head (iv ((byteAt d (i).toNat) - 48)) (congrArg (Value.int .i64) (IntWalk.i64_in _ (by omega))) ?_
          refine J.run 1 K52_94 [(62, iv (IntKind.wrap .i64 ((10 * n) + ((byteAt d (i).toNat) - 48)))), (8, iv i), (6, .string d), (5, .bool mn)] w6 (by kernel_rfl) ?_
          refine J.head (iv ((10 * n) + ((byteAt d (i).toNat) - 48))) (congrArg (Value.int .i64) (IntWalk.i64_in _ (by omega))) ?_
          refine J.run 6 K52_95 [(42, iv (IntKind.wrap .i64 (i + 1))), (7, iv ((10 * n) + ((byteAt d (i).toNat) - 48))), (6, .string d), (5, .bool mn)] w6 (by kernel_rfl) ?_
          refine J.head (iv (i + 1)) (congrArg (Value.int .i64) (IntWalk.i64_in _ (by omega))) ?_
          refine J.run 3 K52_81 [(8, iv (i + 1)), (7, iv ((10 * n) + ((byteAt d (i).toNat) - 48))), (6, .string d), (5, .bool mn)] w6 (by kernel_rfl) ?_
          refine J.run 0 K52_81 [(8, iv (i + 1)), (7, iv ((10 * n) + ((byteAt d (i).toNat) - 48))), (6, .string d), (5, .bool mn)] w6 (by kernel_rfl) ?_
          exact ih4 _ (show ((d.size : Int) - (i + 1)).toNat < mm4 from by omega) ((10 * n) + ((byteAt d (i).toNat) - 48)) (i + 1) w6 (by omega) (by omega) (⟨by omega, by rw [rd_step h0 (by omega) hm (by omega) (by omega)]; exact decV_pre (d := d) (i := (i + 1).toNat) (fun j hj => by by_cases e_ : j = i.toNat; (subst e_; omega); exact hq j (by omega)) (min (i + 1).toNat 13) (by omega) (by omega)⟩) (dg_step (q := fun j => 48 ≤ byteAt d j ∧ byteAt d j ≤ 57) h0 hq (by omega)) (rd_step h0 (by omega) hm (by omega) (by omega)) S6 rfl
         ·skip
          refine J.head (.bool false) (congrArg Value.bool (decide_eq_false fk29)) ?_
          refine J.run 6 K52_96 [(42, iv (IntKind.wrap .i64 (i + 1))), (7, iv n), (6, .string d), (5, .bool mn)] w6 (by kernel_rfl) ?_
          refine J.head (iv (i + 1)) (congrArg (Value.int .i64) (IntWalk.i64_in _ (by omega))) ?_
          refine J.run 3 K52_81 [(8, iv (i + 1)), (7, iv n), (6, .string d), (5, .bool mn)] w6 (by kernel_rfl) ?_
          refine J.run 0 K52_81 [(8, iv (i + 1)), (7, iv n), (6, .string d), (5, .bool mn)] w6 (by kernel_rfl) ?_
          exact ih4 _ (show ((d.size : Int) - (i + 1)).toNat < mm4 from by omega) n (i + 1) w6 (by omega) (by omega) (⟨by omega, by omega⟩) (dg_step (q := fun j => 48 ≤ byteAt d j ∧ byteAt d j ≤ 57) h0 hq (by omega)) (by rw [(min_ge (i := i) (by omega)).1] at hm; rw [(min_ge (i := i) (by omega)).2]; exact hm) S6 rfl
      ·skip
       refine J.head (.bool false) (congrArg Value.bool (decide_eq_false fk26)) ?_
       refine J.run 7 K52_97 [(63, .bool mn), (7, iv n), (6, .string d)] w6 (by kernel_rfl) ?_
       rcases Bool.eq_false_or_eq_true mn with fk30 | fk30
       ·skip
        refine J.head (.bool true) (congrArg Value.bool fk30) ?_
        have hms2 := hms fk30
        refine J.run 4 K52_98 [(65, iv (IntKind.wrap .i64 (0 - n))), (6, .string d)] w6 (by kernel_rfl) ?_
        refine J.head (iv (0 - n)) (congrArg (Value.int .i64) (IntWalk.i64_in _ (by omega))) ?_
        refine J.run 12 K52_99 [(4, .bool (decide ((d.size : Int) ≤ 13))), (3, .bool true), (2, iv (0 - n))] w6 (by kernel_rfl) ?_
        refine J.ret Tryd.f52 [iv (0 - n), .bool true, .bool (decide ((d.size : Int) ≤ 13))] Tryd.func52 ⟨by kernel_rfl, by kernel_rfl, by kernel_rfl, trivial⟩ ?_
        refine hR _ _ ?_
        have hqd : ∀ j, j < d.size → 48 ≤ byteAt d j ∧ byteAt d j ≤ 57 := fun j hj => hq j (by omega)
        have hf_ := form_good hd ⟨by omega, by omega⟩ hqd
        exact ⟨(0 - n), by rw [hf_, Bool.true_and, ← hd, ls_length, ← dec_sz]; rfl, (fun h_ => by rw [hf_, Bool.true_and, decide_eq_true_eq, ← hd, ls_length] at h_; rw [(fit_neg (m := n) (hmn.symm.trans fk30) (rd_all hd hm (by omega) (by omega))).2] <;> omega), (by have := decV_ten (d := d) hqd (min i.toNat 13) (by omega); omega), S6.nil⟩
       ·skip
        refine J.head (.bool false) (congrArg Value.bool fk30) ?_
        have hmf2 := hmf fk30
        refine J.run 12 K52_100 [(4, .bool (decide ((d.size : Int) ≤ 13))), (3, .bool true), (2, iv n)] w6 (by kernel_rfl) ?_
        refine J.ret Tryd.f52 [iv n, .bool true, .bool (decide ((d.size : Int) ≤ 13))] Tryd.func52 ⟨by kernel_rfl, by kernel_rfl, by kernel_rfl, trivial⟩ ?_
        refine hR _ _ ?_
        have hqd : ∀ j, j < d.size → 48 ≤ byteAt d j ∧ byteAt d j ≤ 57 := fun j hj => hq j (by omega)
        have hf_ := form_good hd ⟨by omega, by omega⟩ hqd
        exact ⟨n, by rw [hf_, Bool.true_and, ← hd, ls_length, ← dec_sz]; rfl, (fun h_ => by rw [hf_, Bool.true_and, decide_eq_true_eq, ← hd, ls_length] at h_; rw [(fit_pos (m := n) (hmn.symm.trans fk30) (rd_all hd hm (by omega) (by omega))).2] <;> omega), (by have := decV_ten (d := d) hqd (min i.toNat 13) (by omega); omega), S6.nil⟩
     exact L52_4 _ 0 0 w4 (by omega) (by omega) (by omega) (by intro j hj; simp at hj) (rfl) S4 rfl
  refine J.run 2 K52_54 [(6, .string s), (5, .bool false)] w (by kernel_rfl) ?_
  exact X2 s false w (by first | exact (dig_minus (by omega) (by omega)).1 | exact (dig_plain (by omega)).1) (by first | omega | (rw [size_extract s (Nat.le_refl _)]; omega)) ((by first | (intro h_; cases h_; done) | (intro h_; rfl))) ((by first | (intro h_; cases h_; done) | (intro h_; rw [size_extract s (Nat.le_refl _)]; omega))) ((by first | exact (dig_minus (by omega) (by omega)).2.symm | exact (dig_plain (by omega)).2.symm)) S0

end Go.Proofs.YthhdaackhfffiaaDoor

