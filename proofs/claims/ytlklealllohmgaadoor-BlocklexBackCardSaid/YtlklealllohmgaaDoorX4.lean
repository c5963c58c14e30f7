/- Walks of functions of this seat, printed by a program over the engine. Conditions: as each theorem says. -/
import Derived.Test.YtlklealllohmgaaDoorX3
namespace Go.Proofs.YtlklealllohmgaaDoor
open Go.Eng Go.RowKit
set_option linter.unusedSimpArgs false
set_option linter.unusedVariables false
theorem hb34 : HasBody Tryd.prog 34 := fun _ _ => by kernel_rfl
noncomputable def K34_0 : List Item := adv 10 [] (bodyOf Tryd.f34)
noncomputable def K34_1 : List Item := adv 9 [] (popK K34_0)
noncomputable def K34_2 : List Item := adv 12 [true] K34_1
noncomputable def K34_3 : List Item := adv 5 [] K34_1
noncomputable def K34_4 : List Item := adv 7 [true] K34_3
noncomputable def K34_5 : List Item := adv 4 [false] K34_3
noncomputable def K34_6 : List Item := adv 2 [] (popK K34_5)
noncomputable def K34_7 : List Item := adv 5 [true] K34_6
noncomputable def K34_8 : List Item := adv 8 [] (popK K34_7)
noncomputable def K34_9 : List Item := adv 7 [true] K34_8
noncomputable def K34_10 : List Item := adv 9 [false] K34_8
noncomputable def K34_11 : List Item := adv 4 [false] K34_6
noncomputable def K34_12 : List Item := adv 1 [] (popK K34_11)
noncomputable def K34_13 : List Item := adv 25 [true] K34_12
noncomputable def K34_14 : List Item := adv 1 [] (popK K34_13)
noncomputable def K34_15 : List Item := adv 1 [] K34_14
noncomputable def K34_16 : List Item := adv 8 [] K34_15
noncomputable def K34_17 : List Item := adv 9 [] (popK K34_16)
noncomputable def K34_18 : List Item := adv 4 [] K34_17
noncomputable def K34_19 : List Item := adv 4 [] K34_18
noncomputable def K34_20 : List Item := adv 1 [] (popK (popK K34_19))
noncomputable def K34_21 : List Item := adv 22 [true] K34_20
noncomputable def K34_22 : List Item := adv 4 [] K34_20
noncomputable def K34_23 : List Item := adv 4 [] (popK K34_22)
noncomputable def K34_24 : List Item := adv 13 [true] K34_23
noncomputable def K34_25 : List Item := adv 1 [] K34_23
noncomputable def K34_26 : List Item := adv 4 [] (popK K34_25)
noncomputable def K34_27 : List Item := adv 4 [false] K34_26
noncomputable def K34_28 : List Item := adv 2 [] (popK K34_27)
noncomputable def K34_29 : List Item := adv 7 [true] K34_28
noncomputable def K34_30 : List Item := adv 10 [false] K34_28
noncomputable def K34_31 : List Item := adv 7 [true] K34_26
noncomputable def K34_32 : List Item := adv 17 [] K34_18
noncomputable def K34_33 : List Item := adv 4 [] (popK K34_32)
noncomputable def K34_34 : List Item := adv 4 [false] K34_33
noncomputable def K34_35 : List Item := adv 2 [] (popK K34_34)
noncomputable def K34_36 : List Item := adv 7 [true] K34_35
noncomputable def K34_37 : List Item := adv 10 [false] K34_35
noncomputable def K34_38 : List Item := adv 7 [true] K34_33
noncomputable def K34_39 : List Item := adv 3 [] K34_12
noncomputable def K34_40 : List Item := adv 2 [] K34_39
noncomputable def K34_41 : List Item := adv 5 [] K34_40
noncomputable def K34_42 : List Item := adv 3 [] K34_41
noncomputable def K34_43 : List Item := adv 4 [] (popK (popK K34_42))
noncomputable def K34_44 : List Item := adv 6 [true] K34_43
noncomputable def K34_45 : List Item := adv 1 [] (popK K34_44)
noncomputable def K34_46 : List Item := adv 1 [] K34_45
noncomputable def K34_47 : List Item := adv 8 [] K34_46
noncomputable def K34_48 : List Item := adv 9 [] (popK K34_47)
noncomputable def K34_49 : List Item := adv 4 [] K34_48
noncomputable def K34_50 : List Item := adv 4 [] K34_49
noncomputable def K34_51 : List Item := adv 1 [] (popK (popK K34_50))
noncomputable def K34_52 : List Item := adv 22 [true] K34_51
noncomputable def K34_53 : List Item := adv 4 [] K34_51
noncomputable def K34_54 : List Item := adv 4 [] (popK K34_53)
noncomputable def K34_55 : List Item := adv 13 [true] K34_54
noncomputable def K34_56 : List Item := adv 1 [] K34_54
noncomputable def K34_57 : List Item := adv 4 [] (popK K34_56)
noncomputable def K34_58 : List Item := adv 4 [false] K34_57
noncomputable def K34_59 : List Item := adv 2 [] (popK K34_58)
noncomputable def K34_60 : List Item := adv 7 [true] K34_59
noncomputable def K34_61 : List Item := adv 10 [false] K34_59
noncomputable def K34_62 : List Item := adv 7 [true] K34_57
noncomputable def K34_63 : List Item := adv 17 [] K34_49
noncomputable def K34_64 : List Item := adv 4 [] (popK K34_63)
noncomputable def K34_65 : List Item := adv 4 [false] K34_64
noncomputable def K34_66 : List Item := adv 2 [] (popK K34_65)
noncomputable def K34_67 : List Item := adv 7 [true] K34_66
noncomputable def K34_68 : List Item := adv 10 [false] K34_66
noncomputable def K34_69 : List Item := adv 7 [true] K34_64
noncomputable def K34_70 : List Item := adv 4 [false] K34_43
noncomputable def K34_71 : List Item := adv 3 [] (popK K34_70)
noncomputable def K34_72 : List Item := adv 7 [true] K34_71
noncomputable def K34_73 : List Item := adv 9 [false] K34_71
noncomputable def K34_74 : List Item := adv 13 [false] K34_41
noncomputable def K34_75 : List Item := adv 3 [] (popK K34_74)
noncomputable def K34_76 : List Item := adv 7 [true] K34_75
noncomputable def K34_77 : List Item := adv 9 [false] K34_75
noncomputable def K34_78 : List Item := adv 20 [false] K34_39
noncomputable def K34_79 : List Item := adv 3 [] (popK K34_78)
noncomputable def K34_80 : List Item := adv 7 [true] K34_79
noncomputable def K34_81 : List Item := adv 9 [false] K34_79
set_option maxRecDepth 20000 in
set_option maxHeartbeats 20000000 in
theorem scan_any (s : ByteArray) (at_ : Int) (w : World) (hat : 0 ≤ at_ ∧ at_ < (s.size : Int)) (hsz : s.size ≤ 1099511627776) (hW : TabW w) : Ret Tryd.prog 34 #[.string s, .int .i64 at_] w (fun v w' => v = .tuple #[.int .i64 (tokAt ((ls s).drop (at_).toNat)).1, .int .i64 ((tokAt ((ls s).drop (at_).toNat)).2.1 : Int), .int .i64 (tokAt ((ls s).drop (at_).toNat)).2.2] ∧ Sep w [] w') := by
  have S0 := Sep.refl w
  refine Ret.named fun R hR => ?_
  refine Ret.of_J (N := 98) [(0, .string s), (1, .int .i64 at_)] Tryd.func34 rfl rfl (Nat.le_of_ble_eq_true (by kernel_rfl)) (by kernel_rfl) ?_
  obtain ⟨c, r, hr, hc, hr2⟩ := drop_byte (s := s) (i := at_) (by omega) (by omega)
  refine J.run 10 K34_0 [(12, .int .i64 at_), (11, .string s), (0, .string s), (1, .int .i64 at_)] w (by kernel_rfl) ?_
  have := byteAt_bounds s (at_).toNat
  refine J.ok (OK.byte 13 9 s at_ (byteAt s (at_).toNat) (by kernel_rfl) (by kernel_rfl) (by omega) (by omega) (rfl)) ?_
  refine J.run 9 K34_1 [(17, .bool ((byteAt s (at_).toNat) == 32)), (7, .int .u8 (byteAt s (at_).toNat)), (0, .string s), (1, .int .i64 at_)] w (by kernel_rfl) ?_
  by_cases fk1 : (byteAt s (at_).toNat) = 32
  · skip
    refine J.head (.bool true) (congrArg Value.bool (beq_iff_eq.2 fk1)) ?_
    refine J.run 12 K34_2 [(6, .int .i64 0), (5, .int .i64 1), (4, .int .i64 0)] w (by kernel_rfl) ?_
    refine J.ret Tryd.f34 [.int .i64 0, .int .i64 1, .int .i64 0] Tryd.func34 ⟨by kernel_rfl, by kernel_rfl, by kernel_rfl, trivial⟩ ?_
    refine hR _ _ ?_
    obtain ⟨e1, e2, e3⟩ := tokF3 (k := 0) (n := 1) (e := 0) (tok_blank (by rw [hc]; omega)) (by omega)
    exact ⟨by rw [tup_three, hr, e1, e2, e3] <;> try rw [hr], S0.nil⟩
  · skip
    refine J.head (.bool false) (congrArg Value.bool (beq_eq_false_iff_ne.2 fk1)) ?_
    refine J.run 5 K34_3 [(14, .bool ((byteAt s (at_).toNat) == 9)), (7, .int .u8 (byteAt s (at_).toNat)), (0, .string s), (1, .int .i64 at_)] w (by kernel_rfl) ?_
    by_cases fk2 : (byteAt s (at_).toNat) = 9
    · skip
      refine J.head (.bool true) (congrArg Value.bool (beq_iff_eq.2 fk2)) ?_
      refine J.run 7 K34_4 [(6, .int .i64 0), (5, .int .i64 1), (4, .int .i64 0)] w (by kernel_rfl) ?_
      refine J.ret Tryd.f34 [.int .i64 0, .int .i64 1, .int .i64 0] Tryd.func34 ⟨by kernel_rfl, by kernel_rfl, by kernel_rfl, trivial⟩ ?_
      refine hR _ _ ?_
      obtain ⟨e1, e2, e3⟩ := tokF3 (k := 0) (n := 1) (e := 0) (tok_blank (by rw [hc]; omega)) (by omega)
      exact ⟨by rw [tup_three, hr, e1, e2, e3] <;> try rw [hr], S0.nil⟩
    · skip
      refine J.head (.bool false) (congrArg Value.bool (beq_eq_false_iff_ne.2 fk2)) ?_
      refine J.run 4 K34_5 [(22, .int .u8 (byteAt s (at_).toNat)), (7, .int .u8 (byteAt s (at_).toNat)), (0, .string s), (1, .int .i64 at_)] w (by kernel_rfl) ?_
      refine J.callF 23 46 #[.int .u8 (byteAt s (at_).toNat)] hb46 (by kernel_rfl) (letter_any (byteAt s (at_).toNat) _) ?_
      rintro _ w1 ⟨rfl, T1⟩
      have S1 : Sep w [] w1 := S0.trans T1
      clear T1
      refine J.run 2 K34_6 [(21, .bool (letB (byteAt s (at_).toNat))), (7, .int .u8 (byteAt s (at_).toNat)), (0, .string s), (1, .int .i64 at_)] w1 (by kernel_rfl) ?_
      rcases Bool.eq_false_or_eq_true (letB (byteAt s (at_).toNat)) with fk3 | fk3
      · skip
        refine J.head (.bool true) (congrArg Value.bool fk3) ?_
        refine J.run 5 K34_7 [(25, .int .i64 at_), (24, .string s)] w1 (by kernel_rfl) ?_
        refine J.callF 26 47 #[.string s, .int .i64 at_, .func (.func 48) #[] #[]] hb47 (by kernel_rfl) (run_any s at_ 48 innB _ (by omega) (by omega) hb48 (fun c w2 _ _ => inner_any c w2)) ?_
        rintro _ w2 ⟨rfl, T2⟩
        have S2 : Sep w [] w2 := S1.trans T2
        have hrl1 := runL_le innB ((ls s).drop (at_).toNat); rw [List.length_drop, ls_length] at hrl1
        refine J.run 8 K34_8 [(28, .bool (decide ((runL innB ((ls s).drop (at_).toNat) : Int) > 24))), (8, .int .i64 (runL innB ((ls s).drop (at_).toNat) : Int))] w2 (by kernel_rfl) ?_
        by_cases fk4 : (runL innB ((ls s).drop (at_).toNat) : Int) > 24
        · skip
          refine J.head (.bool true) (congrArg Value.bool (decide_eq_true fk4)) ?_
          refine J.run 7 K34_9 [(6, .int .i64 5), (5, .int .i64 0), (4, .int .i64 0)] w2 (by kernel_rfl) ?_
          refine J.ret Tryd.f34 [.int .i64 0, .int .i64 0, .int .i64 5] Tryd.func34 ⟨by kernel_rfl, by kernel_rfl, by kernel_rfl, trivial⟩ ?_
          refine hR _ _ ?_
          have hb : ¬ (b2 c = 32 ∨ b2 c = 9) := by rw [hc]; omega
          obtain ⟨e1, e2, e3⟩ := tokF3 (k := 0) (n := 0) (e := 5) ((tok_word hb (by rw [hc]; exact fk3)).trans (by rw [← hr]; rw [if_pos (by omega)]; rfl)) (by omega)
          exact ⟨by rw [tup_three, hr, e1, e2, e3] <;> try rw [hr], S2.nil⟩
        · skip
          refine J.head (.bool false) (congrArg Value.bool (decide_eq_false fk4)) ?_
          refine J.run 9 K34_10 [(6, .int .i64 0), (5, .int .i64 (runL innB ((ls s).drop (at_).toNat) : Int)), (4, .int .i64 1)] w2 (by kernel_rfl) ?_
          refine J.ret Tryd.f34 [.int .i64 1, .int .i64 (runL innB ((ls s).drop (at_).toNat) : Int), .int .i64 0] Tryd.func34 ⟨by kernel_rfl, by kernel_rfl, by kernel_rfl, trivial⟩ ?_
          refine hR _ _ ?_
          have hb : ¬ (b2 c = 32 ∨ b2 c = 9) := by rw [hc]; omega
          obtain ⟨e1, e2, e3⟩ := tokF3 (k := 1) (n := (runL innB ((ls s).drop (at_).toNat) : Int)) (e := 0) ((tok_word hb (by rw [hc]; exact fk3)).trans (by rw [← hr]; rw [if_neg (by omega)]; rfl)) (by omega)
          exact ⟨by rw [tup_three, hr, e1, e2, e3] <;> try rw [hr], S2.nil⟩
      · skip
        refine J.head (.bool false) (congrArg Value.bool fk3) ?_
        refine J.run 4 K34_11 [(31, .int .u8 (byteAt s (at_).toNat)), (7, .int .u8 (byteAt s (at_).toNat)), (0, .string s), (1, .int .i64 at_)] w1 (by kernel_rfl) ?_
        refine J.callF 32 52 #[.int .u8 (byteAt s (at_).toNat)] hb52 (by kernel_rfl) (digit_any (byteAt s (at_).toNat) _) ?_
        rintro _ w3 ⟨rfl, T3⟩
        have S3 : Sep w [] w3 := S1.trans T3
        clear T3 S1
        refine J.run 1 K34_12 [(33, .bool (digB (byteAt s (at_).toNat))), (7, .int .u8 (byteAt s (at_).toNat)), (0, .string s), (1, .int .i64 at_)] w3 (by kernel_rfl) ?_
        rcases Bool.eq_false_or_eq_true (digB (byteAt s (at_).toNat)) with fk5 | fk5
        · skip
          refine J.head (.bool true) (congrArg Value.bool fk5) ?_
          refine J.run 25 K34_13 [(53, .int .i64 (IntKind.wrap .i64 (at_ + 1))), (51, .string s), (0, .string s), (1, .int .i64 at_)] w3 (by kernel_rfl) ?_
          refine J.head (.int .i64 (at_ + 1)) (congrArg (Value.int .i64) (IntWalk.i64_in _ (by omega))) ?_
          refine J.callF 54 47 #[.string s, .int .i64 (at_ + 1), .func (.func 52) #[] #[]] hb47 (by kernel_rfl) (run_any s (at_ + 1) 52 digB _ (by omega) (by omega) hb52 (fun c w2 _ _ => digit_any c w2)) ?_
          rintro _ w4 ⟨rfl, T4⟩
          have S4 : Sep w [] w4 := S3.trans T4
          have hrl2 := runL_le digB ((ls s).drop ((at_ + 1)).toNat); rw [List.length_drop, ls_length] at hrl2
          refine J.run 1 K34_14 [(55, .int .i64 (IntKind.wrap .i64 (1 + (runL digB ((ls s).drop (at_ + 1).toNat) : Int)))), (0, .string s), (1, .int .i64 at_)] w4 (by kernel_rfl) ?_
          refine J.head (.int .i64 (1 + (runL digB ((ls s).drop (at_ + 1).toNat) : Int))) (congrArg (Value.int .i64) (IntWalk.i64_in _ (by omega))) ?_
          refine J.run 1 K34_15 [(9, .int .i64 (1 + (runL digB ((ls s).drop (at_ + 1).toNat) : Int))), (0, .string s), (1, .int .i64 at_)] w4 (by kernel_rfl) ?_
          obtain ⟨n, hn⟩ : ∃ x : Int, x = 1 + (runL digB ((ls s).drop (at_ + 1).toNat) : Int) := ⟨_, rfl⟩
          refine J.head (.int .i64 n) (congrArg (Value.int .i64) hn.symm) ?_
          refine J.run 8 K34_16 [(60, .int .i64 (IntKind.wrap .i64 (at_ + n))), (57, .int .i64 at_), (56, .string s), (9, .int .i64 n), (0, .string s), (1, .int .i64 at_)] w4 (by kernel_rfl) ?_
          refine J.head (.int .i64 (at_ + n)) (congrArg (Value.int .i64) (IntWalk.i64_in _ (by omega))) ?_
          refine J.ok (OK.sliceT 61 9 s (some (.int .i64 at_)) (some (.int .i64 (at_ + n))) ((at_).toNat) ((at_ + n).toNat) (by kernel_rfl) (by kernel_rfl) (.inr ⟨_, _, rfl, by omega⟩) (.inr ⟨_, _, rfl, by omega⟩) (by first | omega | (simp; omega)) (by first | omega | (simp; omega))) ?_
          have := size_extract s (i := (at_).toNat) (j := (at_ + n).toNat) (by first | omega | (simp; omega))
          refine J.run 9 K34_17 [(65, .int .i64 (IntKind.wrap .i64 (at_ + n))), (10, .string (s.extract ((at_).toNat) ((at_ + n).toNat))), (9, .int .i64 n), (0, .string s), (1, .int .i64 at_)] w4 (by kernel_rfl) ?_
          refine J.head (.int .i64 (at_ + n)) (congrArg (Value.int .i64) (IntWalk.i64_in _ (by omega))) ?_
          refine J.run 4 K34_18 [(69, .bool (decide ((at_ + n) < (s.size : Int)))), (10, .string (s.extract ((at_).toNat) ((at_ + n).toNat))), (9, .int .i64 n), (0, .string s), (1, .int .i64 at_)] w4 (by kernel_rfl) ?_
          by_cases fk6 : (at_ + n) < (s.size : Int)
          · skip
            refine J.head (.bool true) (congrArg Value.bool (decide_eq_true fk6)) ?_
            refine J.run 4 K34_19 [(73, .int .i64 (IntKind.wrap .i64 (at_ + n))), (70, .string s), (69, .bool true), (10, .string (s.extract ((at_).toNat) ((at_ + n).toNat))), (9, .int .i64 n), (0, .string s), (1, .int .i64 at_)] w4 (by kernel_rfl) ?_
            refine J.head (.int .i64 (at_ + n)) (congrArg (Value.int .i64) (IntWalk.i64_in _ (by omega))) ?_
            have := byteAt_bounds s (at_ + n).toNat
            refine J.ok (OK.byte 74 9 s (at_ + n) (byteAt s (at_ + n).toNat) (by kernel_rfl) (by kernel_rfl) (by omega) (by omega) (rfl)) ?_
            refine J.callF 75 46 #[.int .u8 (byteAt s (at_ + n).toNat)] hb46 (by kernel_rfl) (letter_any (byteAt s (at_ + n).toNat) _) ?_
            rintro _ w5 ⟨rfl, T5⟩
            have S5 : Sep w [] w5 := S4.trans T5
            clear T5 S4
            refine J.run 1 K34_20 [(76, .bool (letB (byteAt s (at_ + n).toNat))), (69, .bool true), (10, .string (s.extract ((at_).toNat) ((at_ + n).toNat))), (9, .int .i64 n), (0, .string s), (1, .int .i64 at_)] w5 (by kernel_rfl) ?_
            rcases Bool.eq_false_or_eq_true (letB (byteAt s (at_ + n).toNat)) with fk7 | fk7
            · skip
              refine J.head (.bool true) (congrArg Value.bool fk7) ?_
              refine J.run 22 K34_21 [(6, .int .i64 3), (5, .int .i64 0), (4, .int .i64 0)] w5 (by kernel_rfl) ?_
              refine J.ret Tryd.f34 [.int .i64 0, .int .i64 0, .int .i64 3] Tryd.func34 ⟨by kernel_rfl, by kernel_rfl, by kernel_rfl, trivial⟩ ?_
              refine hR _ _ ?_
              have hb : ¬ (b2 c = 32 ∨ b2 c = 9) := by rw [hc]; omega
              have hl : letB (b2 c) = false := by rw [hc]; exact fk3
              have hn : numB (c :: r) = true := numB_yes (by omega) hr hc hr2 (by first | exact .inl fk5 | exact .inr ⟨by omega, by omega, rfl⟩)
              have hk : n.toNat = 1 + runL digB r := by rw [hr2]; omega
              have hx := ext_take s (i := at_) (k := n) (by omega) (by omega)
              rw [hr, hk] at hx
              have hnx := next_eq (s := s) (k := at_ + n) (by omega)
              have hdm := drop_more (s := s) (i := at_) (c := c) (r := r) (by omega) hr (k := n) (by omega)
              rw [hk] at hdm
              have htn := tok_num hb hl hn
              rw [hdm] at htn
              have hlt := fk7
              obtain ⟨e1, e2, e3⟩ := tokF3 (k := 0) (n := 0) (e := 3) (htn.trans (by rw [if_pos (by rw [show nextB ((ls s).drop (at_ + n).toNat) = true from by rw [hnx, decide_eq_true (by omega)]; first | (rw [hlt]; rfl) | (rw [decide_eq_true (by omega), Bool.or_true]; rfl)]; rfl)]; rfl)) (by omega)
              exact ⟨by rw [tup_three, hr, e1, e2, e3] <;> try rw [hr], S5.nil⟩
            · skip
              refine J.head (.bool false) (congrArg Value.bool fk7) ?_
              refine J.run 4 K34_22 [(80, .int .i64 (IntKind.wrap .i64 (at_ + n))), (77, .string s), (76, .bool false), (69, .bool true), (10, .string (s.extract ((at_).toNat) ((at_ + n).toNat))), (9, .int .i64 n)] w5 (by kernel_rfl) ?_
              refine J.head (.int .i64 (at_ + n)) (congrArg (Value.int .i64) (IntWalk.i64_in _ (by omega))) ?_
              have := byteAt_bounds s (at_ + n).toNat
              refine J.ok (OK.byte 81 9 s (at_ + n) (byteAt s (at_ + n).toNat) (by kernel_rfl) (by kernel_rfl) (by omega) (by omega) (rfl)) ?_
              refine J.run 4 K34_23 [(85, .bool ((byteAt s (at_ + n).toNat) == 95)), (10, .string (s.extract ((at_).toNat) ((at_ + n).toNat))), (9, .int .i64 n)] w5 (by kernel_rfl) ?_
              by_cases fk8 : (byteAt s (at_ + n).toNat) = 95
              · skip
                refine J.head (.bool true) (congrArg Value.bool (beq_iff_eq.2 fk8)) ?_
                refine J.run 13 K34_24 [(6, .int .i64 3), (5, .int .i64 0), (4, .int .i64 0)] w5 (by kernel_rfl) ?_
                refine J.ret Tryd.f34 [.int .i64 0, .int .i64 0, .int .i64 3] Tryd.func34 ⟨by kernel_rfl, by kernel_rfl, by kernel_rfl, trivial⟩ ?_
                refine hR _ _ ?_
                have hb : ¬ (b2 c = 32 ∨ b2 c = 9) := by rw [hc]; omega
                have hl : letB (b2 c) = false := by rw [hc]; exact fk3
                have hn : numB (c :: r) = true := numB_yes (by omega) hr hc hr2 (by first | exact .inl fk5 | exact .inr ⟨by omega, by omega, rfl⟩)
                have hk : n.toNat = 1 + runL digB r := by rw [hr2]; omega
                have hx := ext_take s (i := at_) (k := n) (by omega) (by omega)
                rw [hr, hk] at hx
                have hnx := next_eq (s := s) (k := at_ + n) (by omega)
                have hdm := drop_more (s := s) (i := at_) (c := c) (r := r) (by omega) hr (k := n) (by omega)
                rw [hk] at hdm
                have htn := tok_num hb hl hn
                rw [hdm] at htn
                have hlt := fk7
                obtain ⟨e1, e2, e3⟩ := tokF3 (k := 0) (n := 0) (e := 3) (htn.trans (by rw [if_pos (by rw [show nextB ((ls s).drop (at_ + n).toNat) = true from by rw [hnx, decide_eq_true (by omega)]; first | (rw [hlt]; rfl) | (rw [decide_eq_true (by omega), Bool.or_true]; rfl)]; rfl)]; rfl)) (by omega)
                exact ⟨by rw [tup_three, hr, e1, e2, e3] <;> try rw [hr], S5.nil⟩
              · skip
                refine J.head (.bool false) (congrArg Value.bool (beq_eq_false_iff_ne.2 fk8)) ?_
                refine J.run 1 K34_25 [(86, .string (s.extract ((at_).toNat) ((at_ + n).toNat))), (85, .bool false), (10, .string (s.extract ((at_).toNat) ((at_ + n).toNat))), (9, .int .i64 n)] w5 (by kernel_rfl) ?_
                refine J.callF 87 53 #[.string (s.extract ((at_).toNat) ((at_ + n).toNat))] hb53 (by kernel_rfl) (canonical_any (s.extract ((at_).toNat) ((at_ + n).toNat)) _) ?_
                rintro _ w6 ⟨rfl, T6⟩
                have S6 : Sep w [] w6 := S5.trans T6
                clear T6 S5
                refine J.run 4 K34_26 [(62, .bool (!(canL (ls (s.extract ((at_).toNat) ((at_ + n).toNat)))))), (10, .string (s.extract ((at_).toNat) ((at_ + n).toNat))), (9, .int .i64 n)] w6 (by kernel_rfl) ?_
                rcases Bool.eq_false_or_eq_true (canL (ls (s.extract ((at_).toNat) ((at_ + n).toNat)))) with fk9 | fk9
                · skip
                  refine J.head (.bool false) (congrArg Value.bool (by rw [fk9]; rfl)) ?_
                  refine J.run 4 K34_27 [(91, .string (s.extract ((at_).toNat) ((at_ + n).toNat))), (9, .int .i64 n)] w6 (by kernel_rfl) ?_
                  refine J.callF 92 54 #[.string (s.extract ((at_).toNat) ((at_ + n).toNat))] hb54 (by kernel_rfl) (great_any (s.extract ((at_).toNat) ((at_ + n).toNat)) _ (by omega) (tabW_sep hW S6)) ?_
                  rintro _ w7 ⟨rfl, T7⟩
                  have S7 : Sep w [] w7 := S6.trans T7
                  clear T7 S6
                  refine J.run 2 K34_28 [(90, .bool (greatB (s.extract ((at_).toNat) ((at_ + n).toNat)))), (9, .int .i64 n)] w7 (by kernel_rfl) ?_
                  rcases Bool.eq_false_or_eq_true (greatB (s.extract ((at_).toNat) ((at_ + n).toNat))) with fk10 | fk10
                  · skip
                    refine J.head (.bool true) (congrArg Value.bool fk10) ?_
                    refine J.run 7 K34_29 [(6, .int .i64 9), (5, .int .i64 0), (4, .int .i64 0)] w7 (by kernel_rfl) ?_
                    refine J.ret Tryd.f34 [.int .i64 0, .int .i64 0, .int .i64 9] Tryd.func34 ⟨by kernel_rfl, by kernel_rfl, by kernel_rfl, trivial⟩ ?_
                    refine hR _ _ ?_
                    have hb : ¬ (b2 c = 32 ∨ b2 c = 9) := by rw [hc]; omega
                    have hl : letB (b2 c) = false := by rw [hc]; exact fk3
                    have hn : numB (c :: r) = true := numB_yes (by omega) hr hc hr2 (by first | exact .inl fk5 | exact .inr ⟨by omega, by omega, rfl⟩)
                    have hk : n.toNat = 1 + runL digB r := by rw [hr2]; omega
                    have hx := ext_take s (i := at_) (k := n) (by omega) (by omega)
                    rw [hr, hk] at hx
                    have hnx := next_eq (s := s) (k := at_ + n) (by omega)
                    have hdm := drop_more (s := s) (i := at_) (c := c) (r := r) (by omega) hr (k := n) (by omega)
                    rw [hk] at hdm
                    have htn := tok_num hb hl hn
                    rw [hdm] at htn
                    have hlt := fk7
                    have hcn := fk9
                    rw [hx] at hcn
                    have hnx0 : nextB ((ls s).drop (at_ + n).toNat) = false := by rw [hnx, hlt, Bool.false_or, decide_eq_false (show ¬ byteAt s (at_ + n).toNat = 95 by omega), Bool.and_false]
                    have hgr := fk10
                    rw [hx] at hgr
                    rw [if_neg (by rw [hnx0, show canL ((c :: r).take (1 + runL digB r)) = true from hcn]; decide)] at htn
                    obtain ⟨e1, e2, e3⟩ := tokF3 (k := 0) (n := 0) (e := 9) (htn.trans (by rw [if_pos (show greatL ((c :: r).take (1 + runL digB r)) = true from hgr)]; rfl)) (by omega)
                    exact ⟨by rw [tup_three, hr, e1, e2, e3] <;> try rw [hr], S7.nil⟩
                  · skip
                    refine J.head (.bool false) (congrArg Value.bool fk10) ?_
                    refine J.run 10 K34_30 [(6, .int .i64 0), (5, .int .i64 n), (4, .int .i64 2)] w7 (by kernel_rfl) ?_
                    refine J.ret Tryd.f34 [.int .i64 2, .int .i64 n, .int .i64 0] Tryd.func34 ⟨by kernel_rfl, by kernel_rfl, by kernel_rfl, trivial⟩ ?_
                    refine hR _ _ ?_
                    have hb : ¬ (b2 c = 32 ∨ b2 c = 9) := by rw [hc]; omega
                    have hl : letB (b2 c) = false := by rw [hc]; exact fk3
                    have hn : numB (c :: r) = true := numB_yes (by omega) hr hc hr2 (by first | exact .inl fk5 | exact .inr ⟨by omega, by omega, rfl⟩)
                    have hk : n.toNat = 1 + runL digB r := by rw [hr2]; omega
                    have hx := ext_take s (i := at_) (k := n) (by omega) (by omega)
                    rw [hr, hk] at hx
                    have hnx := next_eq (s := s) (k := at_ + n) (by omega)
                    have hdm := drop_more (s := s) (i := at_) (c := c) (r := r) (by omega) hr (k := n) (by omega)
                    rw [hk] at hdm
                    have htn := tok_num hb hl hn
                    rw [hdm] at htn
                    have hlt := fk7
                    have hcn := fk9
                    rw [hx] at hcn
                    have hnx0 : nextB ((ls s).drop (at_ + n).toNat) = false := by rw [hnx, hlt, Bool.false_or, decide_eq_false (show ¬ byteAt s (at_ + n).toNat = 95 by omega), Bool.and_false]
                    have hgr := fk10
                    rw [hx] at hgr
                    rw [if_neg (by rw [hnx0, show canL ((c :: r).take (1 + runL digB r)) = true from hcn]; decide)] at htn
                    obtain ⟨e1, e2, e3⟩ := tokF3 (k := 2) (n := n) (e := 0) (htn.trans (by rw [if_neg (by rw [show greatL ((c :: r).take (1 + runL digB r)) = false from hgr]; decide), ← hk])) (by omega)
                    exact ⟨by rw [tup_three, hr, e1, e2, e3] <;> try rw [hr], S7.nil⟩
                · skip
                  refine J.head (.bool true) (congrArg Value.bool (by rw [fk9]; rfl)) ?_
                  refine J.run 7 K34_31 [(6, .int .i64 3), (5, .int .i64 0), (4, .int .i64 0)] w6 (by kernel_rfl) ?_
                  refine J.ret Tryd.f34 [.int .i64 0, .int .i64 0, .int .i64 3] Tryd.func34 ⟨by kernel_rfl, by kernel_rfl, by kernel_rfl, trivial⟩ ?_
                  refine hR _ _ ?_
                  have hb : ¬ (b2 c = 32 ∨ b2 c = 9) := by rw [hc]; omega
                  have hl : letB (b2 c) = false := by rw [hc]; exact fk3
                  have hn : numB (c :: r) = true := numB_yes (by omega) hr hc hr2 (by first | exact .inl fk5 | exact .inr ⟨by omega, by omega, rfl⟩)
                  have hk : n.toNat = 1 + runL digB r := by rw [hr2]; omega
                  have hx := ext_take s (i := at_) (k := n) (by omega) (by omega)
                  rw [hr, hk] at hx
                  have hnx := next_eq (s := s) (k := at_ + n) (by omega)
                  have hdm := drop_more (s := s) (i := at_) (c := c) (r := r) (by omega) hr (k := n) (by omega)
                  rw [hk] at hdm
                  have htn := tok_num hb hl hn
                  rw [hdm] at htn
                  have hlt := fk7
                  have hcn := fk9
                  rw [hx] at hcn
                  have hnx0 : nextB ((ls s).drop (at_ + n).toNat) = false := by rw [hnx, hlt, Bool.false_or, decide_eq_false (show ¬ byteAt s (at_ + n).toNat = 95 by omega), Bool.and_false]
                  obtain ⟨e1, e2, e3⟩ := tokF3 (k := 0) (n := 0) (e := 3) (htn.trans (by rw [if_pos (by rw [show canL ((c :: r).take (1 + runL digB r)) = false from hcn, Bool.not_false, Bool.or_true])]; rfl)) (by omega)
                  exact ⟨by rw [tup_three, hr, e1, e2, e3] <;> try rw [hr], S6.nil⟩
          · skip
            refine J.head (.bool false) (congrArg Value.bool (decide_eq_false fk6)) ?_
            refine J.run 17 K34_32 [(86, .string (s.extract ((at_).toNat) ((at_ + n).toNat))), (85, .bool false), (10, .string (s.extract ((at_).toNat) ((at_ + n).toNat))), (9, .int .i64 n)] w4 (by kernel_rfl) ?_
            refine J.callF 87 53 #[.string (s.extract ((at_).toNat) ((at_ + n).toNat))] hb53 (by kernel_rfl) (canonical_any (s.extract ((at_).toNat) ((at_ + n).toNat)) _) ?_
            rintro _ w8 ⟨rfl, T8⟩
            have S8 : Sep w [] w8 := S4.trans T8
            clear T8 S4
            refine J.run 4 K34_33 [(62, .bool (!(canL (ls (s.extract ((at_).toNat) ((at_ + n).toNat)))))), (10, .string (s.extract ((at_).toNat) ((at_ + n).toNat))), (9, .int .i64 n)] w8 (by kernel_rfl) ?_
            rcases Bool.eq_false_or_eq_true (canL (ls (s.extract ((at_).toNat) ((at_ + n).toNat)))) with fk11 | fk11
            · skip
              refine J.head (.bool false) (congrArg Value.bool (by rw [fk11]; rfl)) ?_
              refine J.run 4 K34_34 [(91, .string (s.extract ((at_).toNat) ((at_ + n).toNat))), (9, .int .i64 n)] w8 (by kernel_rfl) ?_
              refine J.callF 92 54 #[.string (s.extract ((at_).toNat) ((at_ + n).toNat))] hb54 (by kernel_rfl) (great_any (s.extract ((at_).toNat) ((at_ + n).toNat)) _ (by omega) (tabW_sep hW S8)) ?_
              rintro _ w9 ⟨rfl, T9⟩
              have S9 : Sep w [] w9 := S8.trans T9
              clear T9 S8
              refine J.run 2 K34_35 [(90, .bool (greatB (s.extract ((at_).toNat) ((at_ + n).toNat)))), (9, .int .i64 n)] w9 (by kernel_rfl) ?_
              rcases Bool.eq_false_or_eq_true (greatB (s.extract ((at_).toNat) ((at_ + n).toNat))) with fk12 | fk12
              · skip
                refine J.head (.bool true) (congrArg Value.bool fk12) ?_
                refine J.run 7 K34_36 [(6, .int .i64 9), (5, .int .i64 0), (4, .int .i64 0)] w9 (by kernel_rfl) ?_
                refine J.ret Tryd.f34 [.int .i64 0, .int .i64 0, .int .i64 9] Tryd.func34 ⟨by kernel_rfl, by kernel_rfl, by kernel_rfl, trivial⟩ ?_
                refine hR _ _ ?_
                have hb : ¬ (b2 c = 32 ∨ b2 c = 9) := by rw [hc]; omega
                have hl : letB (b2 c) = false := by rw [hc]; exact fk3
                have hn : numB (c :: r) = true := numB_yes (by omega) hr hc hr2 (by first | exact .inl fk5 | exact .inr ⟨by omega, by omega, rfl⟩)
                have hk : n.toNat = 1 + runL digB r := by rw [hr2]; omega
                have hx := ext_take s (i := at_) (k := n) (by omega) (by omega)
                rw [hr, hk] at hx
                have hnx := next_eq (s := s) (k := at_ + n) (by omega)
                have hdm := drop_more (s := s) (i := at_) (c := c) (r := r) (by omega) hr (k := n) (by omega)
                rw [hk] at hdm
                have htn := tok_num hb hl hn
                rw [hdm] at htn
                have hcn := fk11
                rw [hx] at hcn
                have hnx0 : nextB ((ls s).drop (at_ + n).toNat) = false := by rw [hnx, decide_eq_false (by omega)]; rfl
                have hgr := fk12
                rw [hx] at hgr
                rw [if_neg (by rw [hnx0, show canL ((c :: r).take (1 + runL digB r)) = true from hcn]; decide)] at htn
                obtain ⟨e1, e2, e3⟩ := tokF3 (k := 0) (n := 0) (e := 9) (htn.trans (by rw [if_pos (show greatL ((c :: r).take (1 + runL digB r)) = true from hgr)]; rfl)) (by omega)
                exact ⟨by rw [tup_three, hr, e1, e2, e3] <;> try rw [hr], S9.nil⟩
              · skip
                refine J.head (.bool false) (congrArg Value.bool fk12) ?_
                refine J.run 10 K34_37 [(6, .int .i64 0), (5, .int .i64 n), (4, .int .i64 2)] w9 (by kernel_rfl) ?_
                refine J.ret Tryd.f34 [.int .i64 2, .int .i64 n, .int .i64 0] Tryd.func34 ⟨by kernel_rfl, by kernel_rfl, by kernel_rfl, trivial⟩ ?_
                refine hR _ _ ?_
                have hb : ¬ (b2 c = 32 ∨ b2 c = 9) := by rw [hc]; omega
                have hl : letB (b2 c) = false := by rw [hc]; exact fk3
                have hn : numB (c :: r) = true := numB_yes (by omega) hr hc hr2 (by first | exact .inl fk5 | exact .inr ⟨by omega, by omega, rfl⟩)
                have hk : n.toNat = 1 + runL digB r := by rw [hr2]; omega
                have hx := ext_take s (i := at_) (k := n) (by omega) (by omega)
                rw [hr, hk] at hx
                have hnx := next_eq (s := s) (k := at_ + n) (by omega)
                have hdm := drop_more (s := s) (i := at_) (c := c) (r := r) (by omega) hr (k := n) (by omega)
                rw [hk] at hdm
                have htn := tok_num hb hl hn
                rw [hdm] at htn
                have hcn := fk11
                rw [hx] at hcn
                have hnx0 : nextB ((ls s).drop (at_ + n).toNat) = false := by rw [hnx, decide_eq_false (by omega)]; rfl
                have hgr := fk12
                rw [hx] at hgr
                rw [if_neg (by rw [hnx0, show canL ((c :: r).take (1 + runL digB r)) = true from hcn]; decide)] at htn
                obtain ⟨e1, e2, e3⟩ := tokF3 (k := 2) (n := n) (e := 0) (htn.trans (by rw [if_neg (by rw [show greatL ((c :: r).take (1 + runL digB r)) = false from hgr]; decide), ← hk])) (by omega)
                exact ⟨by rw [tup_three, hr, e1, e2, e3] <;> try rw [hr], S9.nil⟩
            · skip
              refine J.head (.bool true) (congrArg Value.bool (by rw [fk11]; rfl)) ?_
              refine J.run 7 K34_38 [(6, .int .i64 3), (5, .int .i64 0), (4, .int .i64 0)] w8 (by kernel_rfl) ?_
              refine J.ret Tryd.f34 [.int .i64 0, .int .i64 0, .int .i64 3] Tryd.func34 ⟨by kernel_rfl, by kernel_rfl, by kernel_rfl, trivial⟩ ?_
              refine hR _ _ ?_
              have hb : ¬ (b2 c = 32 ∨ b2 c = 9) := by rw [hc]; omega
              have hl : letB (b2 c) = false := by rw [hc]; exact fk3
              have hn : numB (c :: r) = true := numB_yes (by omega) hr hc hr2 (by first | exact .inl fk5 | exact .inr ⟨by omega, by omega, rfl⟩)
              have hk : n.toNat = 1 + runL digB r := by rw [hr2]; omega
              have hx := ext_take s (i := at_) (k := n) (by omega) (by omega)
              rw [hr, hk] at hx
              have hnx := next_eq (s := s) (k := at_ + n) (by omega)
              have hdm := drop_more (s := s) (i := at_) (c := c) (r := r) (by omega) hr (k := n) (by omega)
              rw [hk] at hdm
              have htn := tok_num hb hl hn
              rw [hdm] at htn
              have hcn := fk11
              rw [hx] at hcn
              have hnx0 : nextB ((ls s).drop (at_ + n).toNat) = false := by rw [hnx, decide_eq_false (by omega)]; rfl
              obtain ⟨e1, e2, e3⟩ := tokF3 (k := 0) (n := 0) (e := 3) (htn.trans (by rw [if_pos (by rw [show canL ((c :: r).take (1 + runL digB r)) = false from hcn, Bool.not_false, Bool.or_true])]; rfl)) (by omega)
              exact ⟨by rw [tup_three, hr, e1, e2, e3] <;> try rw [hr], S8.nil⟩
        · skip
          refine J.head (.bool false) (congrArg Value.bool fk5) ?_
          refine J.run 3 K34_39 [(36, .bool ((byteAt s (at_).toNat) == 45)), (33, .bool false), (7, .int .u8 (byteAt s (at_).toNat)), (0, .string s), (1, .int .i64 at_)] w3 (by kernel_rfl) ?_
          by_cases fk13 : (byteAt s (at_).toNat) = 45
          · skip
            refine J.head (.bool true) (congrArg Value.bool (beq_iff_eq.2 fk13)) ?_
            refine J.run 2 K34_40 [(38, .int .i64 (IntKind.wrap .i64 (at_ + 1))), (36, .bool true), (33, .bool false), (7, .int .u8 (byteAt s (at_).toNat)), (0, .string s), (1, .int .i64 at_)] w3 (by kernel_rfl) ?_
            refine J.head (.int .i64 (at_ + 1)) (congrArg (Value.int .i64) (IntWalk.i64_in _ (by omega))) ?_
            refine J.run 5 K34_41 [(43, .bool (decide ((at_ + 1) < (s.size : Int)))), (33, .bool false), (7, .int .u8 (byteAt s (at_).toNat)), (0, .string s), (1, .int .i64 at_)] w3 (by kernel_rfl) ?_
            by_cases fk14 : (at_ + 1) < (s.size : Int)
            · skip
              refine J.head (.bool true) (congrArg Value.bool (decide_eq_true fk14)) ?_
              refine J.run 3 K34_42 [(46, .int .i64 (IntKind.wrap .i64 (at_ + 1))), (44, .string s), (43, .bool true), (33, .bool false), (7, .int .u8 (byteAt s (at_).toNat)), (0, .string s), (1, .int .i64 at_)] w3 (by kernel_rfl) ?_
              refine J.head (.int .i64 (at_ + 1)) (congrArg (Value.int .i64) (IntWalk.i64_in _ (by omega))) ?_
              have := byteAt_bounds s (at_ + 1).toNat
              refine J.ok (OK.byte 47 9 s (at_ + 1) (byteAt s (at_ + 1).toNat) (by kernel_rfl) (by kernel_rfl) (by omega) (by omega) (rfl)) ?_
              refine J.callF 48 52 #[.int .u8 (byteAt s (at_ + 1).toNat)] hb52 (by kernel_rfl) (digit_any (byteAt s (at_ + 1).toNat) _) ?_
              rintro _ w10 ⟨rfl, T10⟩
              have S10 : Sep w [] w10 := S3.trans T10
              clear T10 S3
              refine J.run 4 K34_43 [(30, .bool (digB (byteAt s (at_ + 1).toNat))), (7, .int .u8 (byteAt s (at_).toNat)), (0, .string s), (1, .int .i64 at_)] w10 (by kernel_rfl) ?_
              rcases Bool.eq_false_or_eq_true (digB (byteAt s (at_ + 1).toNat)) with fk15 | fk15
              · skip
                refine J.head (.bool true) (congrArg Value.bool fk15) ?_
                refine J.run 6 K34_44 [(53, .int .i64 (IntKind.wrap .i64 (at_ + 1))), (51, .string s), (0, .string s), (1, .int .i64 at_)] w10 (by kernel_rfl) ?_
                refine J.head (.int .i64 (at_ + 1)) (congrArg (Value.int .i64) (IntWalk.i64_in _ (by omega))) ?_
                refine J.callF 54 47 #[.string s, .int .i64 (at_ + 1), .func (.func 52) #[] #[]] hb47 (by kernel_rfl) (run_any s (at_ + 1) 52 digB _ (by omega) (by omega) hb52 (fun c w2 _ _ => digit_any c w2)) ?_
                rintro _ w11 ⟨rfl, T11⟩
                have S11 : Sep w [] w11 := S10.trans T11
                have hrl3 := runL_le digB ((ls s).drop ((at_ + 1)).toNat); rw [List.length_drop, ls_length] at hrl3
                refine J.run 1 K34_45 [(55, .int .i64 (IntKind.wrap .i64 (1 + (runL digB ((ls s).drop (at_ + 1).toNat) : Int)))), (0, .string s), (1, .int .i64 at_)] w11 (by kernel_rfl) ?_
                refine J.head (.int .i64 (1 + (runL digB ((ls s).drop (at_ + 1).toNat) : Int))) (congrArg (Value.int .i64) (IntWalk.i64_in _ (by omega))) ?_
                refine J.run 1 K34_46 [(9, .int .i64 (1 + (runL digB ((ls s).drop (at_ + 1).toNat) : Int))), (0, .string s), (1, .int .i64 at_)] w11 (by kernel_rfl) ?_
                obtain ⟨n, hn⟩ : ∃ x : Int, x = 1 + (runL digB ((ls s).drop (at_ + 1).toNat) : Int) := ⟨_, rfl⟩
                refine J.head (.int .i64 n) (congrArg (Value.int .i64) hn.symm) ?_
                refine J.run 8 K34_47 [(60, .int .i64 (IntKind.wrap .i64 (at_ + n))), (57, .int .i64 at_), (56, .string s), (9, .int .i64 n), (0, .string s), (1, .int .i64 at_)] w11 (by kernel_rfl) ?_
                refine J.head (.int .i64 (at_ + n)) (congrArg (Value.int .i64) (IntWalk.i64_in _ (by omega))) ?_
                refine J.ok (OK.sliceT 61 9 s (some (.int .i64 at_)) (some (.int .i64 (at_ + n))) ((at_).toNat) ((at_ + n).toNat) (by kernel_rfl) (by kernel_rfl) (.inr ⟨_, _, rfl, by omega⟩) (.inr ⟨_, _, rfl, by omega⟩) (by first | omega | (simp; omega)) (by first | omega | (simp; omega))) ?_
                have := size_extract s (i := (at_).toNat) (j := (at_ + n).toNat) (by first | omega | (simp; omega))
                refine J.run 9 K34_48 [(65, .int .i64 (IntKind.wrap .i64 (at_ + n))), (10, .string (s.extract ((at_).toNat) ((at_ + n).toNat))), (9, .int .i64 n), (0, .string s), (1, .int .i64 at_)] w11 (by kernel_rfl) ?_
                refine J.head (.int .i64 (at_ + n)) (congrArg (Value.int .i64) (IntWalk.i64_in _ (by omega))) ?_
                refine J.run 4 K34_49 [(69, .bool (decide ((at_ + n) < (s.size : Int)))), (10, .string (s.extract ((at_).toNat) ((at_ + n).toNat))), (9, .int .i64 n), (0, .string s), (1, .int .i64 at_)] w11 (by kernel_rfl) ?_
                by_cases fk16 : (at_ + n) < (s.size : Int)
                · skip
                  refine J.head (.bool true) (congrArg Value.bool (decide_eq_true fk16)) ?_
                  refine J.run 4 K34_50 [(73, .int .i64 (IntKind.wrap .i64 (at_ + n))), (70, .string s), (69, .bool true), (10, .string (s.extract ((at_).toNat) ((at_ + n).toNat))), (9, .int .i64 n), (0, .string s), (1, .int .i64 at_)] w11 (by kernel_rfl) ?_
                  refine J.head (.int .i64 (at_ + n)) (congrArg (Value.int .i64) (IntWalk.i64_in _ (by omega))) ?_
                  have := byteAt_bounds s (at_ + n).toNat
                  refine J.ok (OK.byte 74 9 s (at_ + n) (byteAt s (at_ + n).toNat) (by kernel_rfl) (by kernel_rfl) (by omega) (by omega) (rfl)) ?_
                  refine J.callF 75 46 #[.int .u8 (byteAt s (at_ + n).toNat)] hb46 (by kernel_rfl) (letter_any (byteAt s (at_ + n).toNat) _) ?_
                  rintro _ w12 ⟨rfl, T12⟩
                  have S12 : Sep w [] w12 := S11.trans T12
                  clear T12 S11
                  refine J.run 1 K34_51 [(76, .bool (letB (byteAt s (at_ + n).toNat))), (69, .bool true), (10, .string (s.extract ((at_).toNat) ((at_ + n).toNat))), (9, .int .i64 n), (0, .string s), (1, .int .i64 at_)] w12 (by kernel_rfl) ?_
                  rcases Bool.eq_false_or_eq_true (letB (byteAt s (at_ + n).toNat)) with fk17 | fk17
                  · skip
                    refine J.head (.bool true) (congrArg Value.bool fk17) ?_
                    refine J.run 22 K34_52 [(6, .int .i64 3), (5, .int .i64 0), (4, .int .i64 0)] w12 (by kernel_rfl) ?_
                    refine J.ret Tryd.f34 [.int .i64 0, .int .i64 0, .int .i64 3] Tryd.func34 ⟨by kernel_rfl, by kernel_rfl, by kernel_rfl, trivial⟩ ?_
                    refine hR _ _ ?_
                    have hb : ¬ (b2 c = 32 ∨ b2 c = 9) := by rw [hc]; omega
                    have hl : letB (b2 c) = false := by rw [hc]; exact fk3
                    have hn : numB (c :: r) = true := numB_yes (by omega) hr hc hr2 (by first | exact .inl rfl | exact .inr ⟨by omega, by omega, fk15⟩)
                    have hk : n.toNat = 1 + runL digB r := by rw [hr2]; omega
                    have hx := ext_take s (i := at_) (k := n) (by omega) (by omega)
                    rw [hr, hk] at hx
                    have hnx := next_eq (s := s) (k := at_ + n) (by omega)
                    have hdm := drop_more (s := s) (i := at_) (c := c) (r := r) (by omega) hr (k := n) (by omega)
                    rw [hk] at hdm
                    have htn := tok_num hb hl hn
                    rw [hdm] at htn
                    have hlt := fk17
                    obtain ⟨e1, e2, e3⟩ := tokF3 (k := 0) (n := 0) (e := 3) (htn.trans (by rw [if_pos (by rw [show nextB ((ls s).drop (at_ + n).toNat) = true from by rw [hnx, decide_eq_true (by omega)]; first | (rw [hlt]; rfl) | (rw [decide_eq_true (by omega), Bool.or_true]; rfl)]; rfl)]; rfl)) (by omega)
                    exact ⟨by rw [tup_three, hr, e1, e2, e3] <;> try rw [hr], S12.nil⟩
                  · skip
                    refine J.head (.bool false) (congrArg Value.bool fk17) ?_
                    refine J.run 4 K34_53 [(80, .int .i64 (IntKind.wrap .i64 (at_ + n))), (77, .string s), (76, .bool false), (69, .bool true), (10, .string (s.extract ((at_).toNat) ((at_ + n).toNat))), (9, .int .i64 n)] w12 (by kernel_rfl) ?_
                    refine J.head (.int .i64 (at_ + n)) (congrArg (Value.int .i64) (IntWalk.i64_in _ (by omega))) ?_
                    have := byteAt_bounds s (at_ + n).toNat
                    refine J.ok (OK.byte 81 9 s (at_ + n) (byteAt s (at_ + n).toNat) (by kernel_rfl) (by kernel_rfl) (by omega) (by omega) (rfl)) ?_
                    refine J.run 4 K34_54 [(85, .bool ((byteAt s (at_ + n).toNat) == 95)), (10, .string (s.extract ((at_).toNat) ((at_ + n).toNat))), (9, .int .i64 n)] w12 (by kernel_rfl) ?_
                    by_cases fk18 : (byteAt s (at_ + n).toNat) = 95
                    · skip
                      refine J.head (.bool true) (congrArg Value.bool (beq_iff_eq.2 fk18)) ?_
                      refine J.run 13 K34_55 [(6, .int .i64 3), (5, .int .i64 0), (4, .int .i64 0)] w12 (by kernel_rfl) ?_
                      refine J.ret Tryd.f34 [.int .i64 0, .int .i64 0, .int .i64 3] Tryd.func34 ⟨by kernel_rfl, by kernel_rfl, by kernel_rfl, trivial⟩ ?_
                      refine hR _ _ ?_
                      have hb : ¬ (b2 c = 32 ∨ b2 c = 9) := by rw [hc]; omega
                      have hl : letB (b2 c) = false := by rw [hc]; exact fk3
                      have hn : numB (c :: r) = true := numB_yes (by omega) hr hc hr2 (by first | exact .inl rfl | exact .inr ⟨by omega, by omega, fk15⟩)
                      have hk : n.toNat = 1 + runL digB r := by rw [hr2]; omega
                      have hx := ext_take s (i := at_) (k := n) (by omega) (by omega)
                      rw [hr, hk] at hx
                      have hnx := next_eq (s := s) (k := at_ + n) (by omega)
                      have hdm := drop_more (s := s) (i := at_) (c := c) (r := r) (by omega) hr (k := n) (by omega)
                      rw [hk] at hdm
                      have htn := tok_num hb hl hn
                      rw [hdm] at htn
                      have hlt := fk17
                      obtain ⟨e1, e2, e3⟩ := tokF3 (k := 0) (n := 0) (e := 3) (htn.trans (by rw [if_pos (by rw [show nextB ((ls s).drop (at_ + n).toNat) = true from by rw [hnx, decide_eq_true (by omega)]; first | (rw [hlt]; rfl) | (rw [decide_eq_true (by omega), Bool.or_true]; rfl)]; rfl)]; rfl)) (by omega)
                      exact ⟨by rw [tup_three, hr, e1, e2, e3] <;> try rw [hr], S12.nil⟩
                    · skip
                      refine J.head (.bool false) (congrArg Value.bool (beq_eq_false_iff_ne.2 fk18)) ?_
                      refine J.run 1 K34_56 [(86, .string (s.extract ((at_).toNat) ((at_ + n).toNat))), (85, .bool false), (10, .string (s.extract ((at_).toNat) ((at_ + n).toNat))), (9, .int .i64 n)] w12 (by kernel_rfl) ?_
                      refine J.callF 87 53 #[.string (s.extract ((at_).toNat) ((at_ + n).toNat))] hb53 (by kernel_rfl) (canonical_any (s.extract ((at_).toNat) ((at_ + n).toNat)) _) ?_
                      rintro _ w13 ⟨rfl, T13⟩
                      have S13 : Sep w [] w13 := S12.trans T13
                      clear T13 S12
                      refine J.run 4 K34_57 [(62, .bool (!(canL (ls (s.extract ((at_).toNat) ((at_ + n).toNat)))))), (10, .string (s.extract ((at_).toNat) ((at_ + n).toNat))), (9, .int .i64 n)] w13 (by kernel_rfl) ?_
                      rcases Bool.eq_false_or_eq_true (canL (ls (s.extract ((at_).toNat) ((at_ + n).toNat)))) with fk19 | fk19
                      · skip
                        refine J.head (.bool false) (congrArg Value.bool (by rw [fk19]; rfl)) ?_
                        refine J.run 4 K34_58 [(91, .string (s.extract ((at_).toNat) ((at_ + n).toNat))), (9, .int .i64 n)] w13 (by kernel_rfl) ?_
                        refine J.callF 92 54 #[.string (s.extract ((at_).toNat) ((at_ + n).toNat))] hb54 (by kernel_rfl) (great_any (s.extract ((at_).toNat) ((at_ + n).toNat)) _ (by omega) (tabW_sep hW S13)) ?_
                        rintro _ w14 ⟨rfl, T14⟩
                        have S14 : Sep w [] w14 := S13.trans T14
                        clear T14 S13
                        refine J.run 2 K34_59 [(90, .bool (greatB (s.extract ((at_).toNat) ((at_ + n).toNat)))), (9, .int .i64 n)] w14 (by kernel_rfl) ?_
                        rcases Bool.eq_false_or_eq_true (greatB (s.extract ((at_).toNat) ((at_ + n).toNat))) with fk20 | fk20
                        · skip
                          refine J.head (.bool true) (congrArg Value.bool fk20) ?_
                          refine J.run 7 K34_60 [(6, .int .i64 9), (5, .int .i64 0), (4, .int .i64 0)] w14 (by kernel_rfl) ?_
                          refine J.ret Tryd.f34 [.int .i64 0, .int .i64 0, .int .i64 9] Tryd.func34 ⟨by kernel_rfl, by kernel_rfl, by kernel_rfl, trivial⟩ ?_
                          refine hR _ _ ?_
                          have hb : ¬ (b2 c = 32 ∨ b2 c = 9) := by rw [hc]; omega
                          have hl : letB (b2 c) = false := by rw [hc]; exact fk3
                          have hn : numB (c :: r) = true := numB_yes (by omega) hr hc hr2 (by first | exact .inl rfl | exact .inr ⟨by omega, by omega, fk15⟩)
                          have hk : n.toNat = 1 + runL digB r := by rw [hr2]; omega
                          have hx := ext_take s (i := at_) (k := n) (by omega) (by omega)
                          rw [hr, hk] at hx
                          have hnx := next_eq (s := s) (k := at_ + n) (by omega)
                          have hdm := drop_more (s := s) (i := at_) (c := c) (r := r) (by omega) hr (k := n) (by omega)
                          rw [hk] at hdm
                          have htn := tok_num hb hl hn
                          rw [hdm] at htn
                          have hlt := fk17
                          have hcn := fk19
                          rw [hx] at hcn
                          have hnx0 : nextB ((ls s).drop (at_ + n).toNat) = false := by rw [hnx, hlt, Bool.false_or, decide_eq_false (show ¬ byteAt s (at_ + n).toNat = 95 by omega), Bool.and_false]
                          have hgr := fk20
                          rw [hx] at hgr
                          rw [if_neg (by rw [hnx0, show canL ((c :: r).take (1 + runL digB r)) = true from hcn]; decide)] at htn
                          obtain ⟨e1, e2, e3⟩ := tokF3 (k := 0) (n := 0) (e := 9) (htn.trans (by rw [if_pos (show greatL ((c :: r).take (1 + runL digB r)) = true from hgr)]; rfl)) (by omega)
                          exact ⟨by rw [tup_three, hr, e1, e2, e3] <;> try rw [hr], S14.nil⟩
                        · skip
                          refine J.head (.bool false) (congrArg Value.bool fk20) ?_
                          refine J.run 10 K34_61 [(6, .int .i64 0), (5, .int .i64 n), (4, .int .i64 2)] w14 (by kernel_rfl) ?_
                          refine J.ret Tryd.f34 [.int .i64 2, .int .i64 n, .int .i64 0] Tryd.func34 ⟨by kernel_rfl, by kernel_rfl, by kernel_rfl, trivial⟩ ?_
                          refine hR _ _ ?_
                          have hb : ¬ (b2 c = 32 ∨ b2 c = 9) := by rw [hc]; omega
                          have hl : letB (b2 c) = false := by rw [hc]; exact fk3
                          have hn : numB (c :: r) = true := numB_yes (by omega) hr hc hr2 (by first | exact .inl rfl | exact .inr ⟨by omega, by omega, fk15⟩)
                          have hk : n.toNat = 1 + runL digB r := by rw [hr2]; omega
                          have hx := ext_take s (i := at_) (k := n) (by omega) (by omega)
                          rw [hr, hk] at hx
                          have hnx := next_eq (s := s) (k := at_ + n) (by omega)
                          have hdm := drop_more (s := s) (i := at_) (c := c) (r := r) (by omega) hr (k := n) (by omega)
                          rw [hk] at hdm
                          have htn := tok_num hb hl hn
                          rw [hdm] at htn
                          have hlt := fk17
                          have hcn := fk19
                          rw [hx] at hcn
                          have hnx0 : nextB ((ls s).drop (at_ + n).toNat) = false := by rw [hnx, hlt, Bool.false_or, decide_eq_false (show ¬ byteAt s (at_ + n).toNat = 95 by omega), Bool.and_false]
                          have hgr := fk20
                          rw [hx] at hgr
                          rw [if_neg (by rw [hnx0, show canL ((c :: r).take (1 + runL digB r)) = true from hcn]; decide)] at htn
                          obtain ⟨e1, e2, e3⟩ := tokF3 (k := 2) (n := n) (e := 0) (htn.trans (by rw [if_neg (by rw [show greatL ((c :: r).take (1 + runL digB r)) = false from hgr]; decide), ← hk])) (by omega)
                          exact ⟨by rw [tup_three, hr, e1, e2, e3] <;> try rw [hr], S14.nil⟩
                      · skip
                        refine J.head (.bool true) (congrArg Value.bool (by rw [fk19]; rfl)) ?_
                        refine J.run 7 K34_62 [(6, .int .i64 3), (5, .int .i64 0), (4, .int .i64 0)] w13 (by kernel_rfl) ?_
                        refine J.ret Tryd.f34 [.int .i64 0, .int .i64 0, .int .i64 3] Tryd.func34 ⟨by kernel_rfl, by kernel_rfl, by kernel_rfl, trivial⟩ ?_
                        refine hR _ _ ?_
                        have hb : ¬ (b2 c = 32 ∨ b2 c = 9) := by rw [hc]; omega
                        have hl : letB (b2 c) = false := by rw [hc]; exact fk3
                        have hn : numB (c :: r) = true := numB_yes (by omega) hr hc hr2 (by first | exact .inl rfl | exact .inr ⟨by omega, by omega, fk15⟩)
                        have hk : n.toNat = 1 + runL digB r := by rw [hr2]; omega
                        have hx := ext_take s (i := at_) (k := n) (by omega) (by omega)
                        rw [hr, hk] at hx
                        have hnx := next_eq (s := s) (k := at_ + n) (by omega)
                        have hdm := drop_more (s := s) (i := at_) (c := c) (r := r) (by omega) hr (k := n) (by omega)
                        rw [hk] at hdm
                        have htn := tok_num hb hl hn
                        rw [hdm] at htn
                        have hlt := fk17
                        have hcn := fk19
                        rw [hx] at hcn
                        have hnx0 : nextB ((ls s).drop (at_ + n).toNat) = false := by rw [hnx, hlt, Bool.false_or, decide_eq_false (show ¬ byteAt s (at_ + n).toNat = 95 by omega), Bool.and_false]
                        obtain ⟨e1, e2, e3⟩ := tokF3 (k := 0) (n := 0) (e := 3) (htn.trans (by rw [if_pos (by rw [show canL ((c :: r).take (1 + runL digB r)) = false from hcn, Bool.not_false, Bool.or_true])]; rfl)) (by omega)
                        exact ⟨by rw [tup_three, hr, e1, e2, e3] <;> try rw [hr], S13.nil⟩
                · skip
                  refine J.head (.bool false) (congrArg Value.bool (decide_eq_false fk16)) ?_
                  refine J.run 17 K34_63 [(86, .string (s.extract ((at_).toNat) ((at_ + n).toNat))), (85, .bool false), (10, .string (s.extract ((at_).toNat) ((at_ + n).toNat))), (9, .int .i64 n)] w11 (by kernel_rfl) ?_
                  refine J.callF 87 53 #[.string (s.extract ((at_).toNat) ((at_ + n).toNat))] hb53 (by kernel_rfl) (canonical_any (s.extract ((at_).toNat) ((at_ + n).toNat)) _) ?_
                  rintro _ w15 ⟨rfl, T15⟩
                  have S15 : Sep w [] w15 := S11.trans T15
                  clear T15 S11
                  refine J.run 4 K34_64 [(62, .bool (!(canL (ls (s.extract ((at_).toNat) ((at_ + n).toNat)))))), (10, .string (s.extract ((at_).toNat) ((at_ + n).toNat))), (9, .int .i64 n)] w15 (by kernel_rfl) ?_
                  rcases Bool.eq_false_or_eq_true (canL (ls (s.extract ((at_).toNat) ((at_ + n).toNat)))) with fk21 | fk21
                  · skip
                    refine J.head (.bool false) (congrArg Value.bool (by rw [fk21]; rfl)) ?_
                    refine J.run 4 K34_65 [(91, .string (s.extract ((at_).toNat) ((at_ + n).toNat))), (9, .int .i64 n)] w15 (by kernel_rfl) ?_
                    refine J.callF 92 54 #[.string (s.extract ((at_).toNat) ((at_ + n).toNat))] hb54 (by kernel_rfl) (great_any (s.extract ((at_).toNat) ((at_ + n).toNat)) _ (by omega) (tabW_sep hW S15)) ?_
                    rintro _ w16 ⟨rfl, T16⟩
                    have S16 : Sep w [] w16 := S15.trans T16
                    clear T16 S15
                    refine J.run 2 K34_66 [(90, .bool (greatB (s.extract ((at_).toNat) ((at_ + n).toNat)))), (9, .int .i64 n)] w16 (by kernel_rfl) ?_
                    rcases Bool.eq_false_or_eq_true (greatB (s.extract ((at_).toNat) ((at_ + n).toNat))) with fk22 | fk22
                    · skip
                      refine J.head (.bool true) (congrArg Value.bool fk22) ?_
                      refine J.run 7 K34_67 [(6, .int .i64 9), (5, .int .i64 0), (4, .int .i64 0)] w16 (by kernel_rfl) ?_
                      refine J.ret Tryd.f34 [.int .i64 0, .int .i64 0, .int .i64 9] Tryd.func34 ⟨by kernel_rfl, by kernel_rfl, by kernel_rfl, trivial⟩ ?_
                      refine hR _ _ ?_
                      have hb : ¬ (b2 c = 32 ∨ b2 c = 9) := by rw [hc]; omega
                      have hl : letB (b2 c) = false := by rw [hc]; exact fk3
                      have hn : numB (c :: r) = true := numB_yes (by omega) hr hc hr2 (by first | exact .inl rfl | exact .inr ⟨by omega, by omega, fk15⟩)
                      have hk : n.toNat = 1 + runL digB r := by rw [hr2]; omega
                      have hx := ext_take s (i := at_) (k := n) (by omega) (by omega)
                      rw [hr, hk] at hx
                      have hnx := next_eq (s := s) (k := at_ + n) (by omega)
                      have hdm := drop_more (s := s) (i := at_) (c := c) (r := r) (by omega) hr (k := n) (by omega)
                      rw [hk] at hdm
                      have htn := tok_num hb hl hn
                      rw [hdm] at htn
                      have hcn := fk21
                      rw [hx] at hcn
                      have hnx0 : nextB ((ls s).drop (at_ + n).toNat) = false := by rw [hnx, decide_eq_false (by omega)]; rfl
                      have hgr := fk22
                      rw [hx] at hgr
                      rw [if_neg (by rw [hnx0, show canL ((c :: r).take (1 + runL digB r)) = true from hcn]; decide)] at htn
                      obtain ⟨e1, e2, e3⟩ := tokF3 (k := 0) (n := 0) (e := 9) (htn.trans (by rw [if_pos (show greatL ((c :: r).take (1 + runL digB r)) = true from hgr)]; rfl)) (by omega)
                      exact ⟨by rw [tup_three, hr, e1, e2, e3] <;> try rw [hr], S16.nil⟩
                    · skip
                      refine J.head (.bool false) (congrArg Value.bool fk22) ?_
                      refine J.run 10 K34_68 [(6, .int .i64 0), (5, .int .i64 n), (4, .int .i64 2)] w16 (by kernel_rfl) ?_
                      refine J.ret Tryd.f34 [.int .i64 2, .int .i64 n, .int .i64 0] Tryd.func34 ⟨by kernel_rfl, by kernel_rfl, by kernel_rfl, trivial⟩ ?_
                      refine hR _ _ ?_
                      have hb : ¬ (b2 c = 32 ∨ b2 c = 9) := by rw [hc]; omega
                      have hl : letB (b2 c) = false := by rw [hc]; exact fk3
                      have hn : numB (c :: r) = true := numB_yes (by omega) hr hc hr2 (by first | exact .inl rfl | exact .inr ⟨by omega, by omega, fk15⟩)
                      have hk : n.toNat = 1 + runL digB r := by rw [hr2]; omega
                      have hx := ext_take s (i := at_) (k := n) (by omega) (by omega)
                      rw [hr, hk] at hx
                      have hnx := next_eq (s := s) (k := at_ + n) (by omega)
                      have hdm := drop_more (s := s) (i := at_) (c := c) (r := r) (by omega) hr (k := n) (by omega)
                      rw [hk] at hdm
                      have htn := tok_num hb hl hn
                      rw [hdm] at htn
                      have hcn := fk21
                      rw [hx] at hcn
                      have hnx0 : nextB ((ls s).drop (at_ + n).toNat) = false := by rw [hnx, decide_eq_false (by omega)]; rfl
                      have hgr := fk22
                      rw [hx] at hgr
                      rw [if_neg (by rw [hnx0, show canL ((c :: r).take (1 + runL digB r)) = true from hcn]; decide)] at htn
                      obtain ⟨e1, e2, e3⟩ := tokF3 (k := 2) (n := n) (e := 0) (htn.trans (by rw [if_neg (by rw [show greatL ((c :: r).take (1 + runL digB r)) = false from hgr]; decide), ← hk])) (by omega)
                      exact ⟨by rw [tup_three, hr, e1, e2, e3] <;> try rw [hr], S16.nil⟩
                  · skip
                    refine J.head (.bool true) (congrArg Value.bool (by rw [fk21]; rfl)) ?_
                    refine J.run 7 K34_69 [(6, .int .i64 3), (5, .int .i64 0), (4, .int .i64 0)] w15 (by kernel_rfl) ?_
                    refine J.ret Tryd.f34 [.int .i64 0, .int .i64 0, .int .i64 3] Tryd.func34 ⟨by kernel_rfl, by kernel_rfl, by kernel_rfl, trivial⟩ ?_
                    refine hR _ _ ?_
                    have hb : ¬ (b2 c = 32 ∨ b2 c = 9) := by rw [hc]; omega
                    have hl : letB (b2 c) = false := by rw [hc]; exact fk3
                    have hn : numB (c :: r) = true := numB_yes (by omega) hr hc hr2 (by first | exact .inl rfl | exact .inr ⟨by omega, by omega, fk15⟩)
                    have hk : n.toNat = 1 + runL digB r := by rw [hr2]; omega
                    have hx := ext_take s (i := at_) (k := n) (by omega) (by omega)
                    rw [hr, hk] at hx
                    have hnx := next_eq (s := s) (k := at_ + n) (by omega)
                    have hdm := drop_more (s := s) (i := at_) (c := c) (r := r) (by omega) hr (k := n) (by omega)
                    rw [hk] at hdm
                    have htn := tok_num hb hl hn
                    rw [hdm] at htn
                    have hcn := fk21
                    rw [hx] at hcn
                    have hnx0 : nextB ((ls s).drop (at_ + n).toNat) = false := by rw [hnx, decide_eq_false (by omega)]; rfl
                    obtain ⟨e1, e2, e3⟩ := tokF3 (k := 0) (n := 0) (e := 3) (htn.trans (by rw [if_pos (by rw [show canL ((c :: r).take (1 + runL digB r)) = false from hcn, Bool.not_false, Bool.or_true])]; rfl)) (by omega)
                    exact ⟨by rw [tup_three, hr, e1, e2, e3] <;> try rw [hr], S15.nil⟩
              · skip
                refine J.head (.bool false) (congrArg Value.bool fk15) ?_
                refine J.run 4 K34_70 [(95, .int .u8 (byteAt s (at_).toNat))] w10 (by kernel_rfl) ?_
                refine J.callF 96 55 #[.string ⟨#[40, 41, 44, 61, 58, 59, 42, 47, 94]⟩, .int .u8 (byteAt s (at_).toNat)] hb55 (by kernel_rfl) (ixs_any (byteAt s (at_).toNat) _) ?_
                rintro _ w17 ⟨rfl, T17⟩
                have S17 : Sep w [] w17 := S10.trans T17
                clear T17 S10
                refine J.run 3 K34_71 [(94, .bool (decide ((ixS (byteAt s (at_).toNat)) ≥ 0)))] w17 (by kernel_rfl) ?_
                by_cases fk23 : (ixS (byteAt s (at_).toNat)) ≥ 0
                · skip
                  refine J.head (.bool true) (congrArg Value.bool (decide_eq_true fk23)) ?_
                  refine J.run 7 K34_72 [(6, .int .i64 0), (5, .int .i64 1), (4, .int .i64 3)] w17 (by kernel_rfl) ?_
                  refine J.ret Tryd.f34 [.int .i64 3, .int .i64 1, .int .i64 0] Tryd.func34 ⟨by kernel_rfl, by kernel_rfl, by kernel_rfl, trivial⟩ ?_
                  refine hR _ _ ?_
                  have hb : ¬ (b2 c = 32 ∨ b2 c = 9) := by rw [hc]; omega
                  have hl : letB (b2 c) = false := by rw [hc]; exact fk3
                  have hn : numB (c :: r) = false := numB_no (by omega) hr hc hr2 fk5 (by first | exact .inl (by omega) | exact .inr (.inl (by omega)) | exact .inr (.inr fk15))
                  have hsy := ixS_sym (c := byteAt s (at_).toNat) (by omega) (by omega)
                  obtain ⟨e1, e2, e3⟩ := tokF3 (k := 3) (n := 1) (e := 0) ((tok_sym hb hl hn).trans (by rw [hc, ← hsy, decide_eq_true (by omega)]; rfl)) (by omega)
                  exact ⟨by rw [tup_three, hr, e1, e2, e3] <;> try rw [hr], S17.nil⟩
                · skip
                  refine J.head (.bool false) (congrArg Value.bool (decide_eq_false fk23)) ?_
                  refine J.run 9 K34_73 [(6, .int .i64 3), (5, .int .i64 0), (4, .int .i64 0)] w17 (by kernel_rfl) ?_
                  refine J.ret Tryd.f34 [.int .i64 0, .int .i64 0, .int .i64 3] Tryd.func34 ⟨by kernel_rfl, by kernel_rfl, by kernel_rfl, trivial⟩ ?_
                  refine hR _ _ ?_
                  have hb : ¬ (b2 c = 32 ∨ b2 c = 9) := by rw [hc]; omega
                  have hl : letB (b2 c) = false := by rw [hc]; exact fk3
                  have hn : numB (c :: r) = false := numB_no (by omega) hr hc hr2 fk5 (by first | exact .inl (by omega) | exact .inr (.inl (by omega)) | exact .inr (.inr fk15))
                  have hsy := ixS_sym (c := byteAt s (at_).toNat) (by omega) (by omega)
                  obtain ⟨e1, e2, e3⟩ := tokF3 (k := 0) (n := 0) (e := 3) ((tok_sym hb hl hn).trans (by rw [hc, ← hsy, decide_eq_false (by omega)]; rfl)) (by omega)
                  exact ⟨by rw [tup_three, hr, e1, e2, e3] <;> try rw [hr], S17.nil⟩
            · skip
              refine J.head (.bool false) (congrArg Value.bool (decide_eq_false fk14)) ?_
              refine J.run 13 K34_74 [(95, .int .u8 (byteAt s (at_).toNat))] w3 (by kernel_rfl) ?_
              refine J.callF 96 55 #[.string ⟨#[40, 41, 44, 61, 58, 59, 42, 47, 94]⟩, .int .u8 (byteAt s (at_).toNat)] hb55 (by kernel_rfl) (ixs_any (byteAt s (at_).toNat) _) ?_
              rintro _ w18 ⟨rfl, T18⟩
              have S18 : Sep w [] w18 := S3.trans T18
              clear T18 S3
              refine J.run 3 K34_75 [(94, .bool (decide ((ixS (byteAt s (at_).toNat)) ≥ 0)))] w18 (by kernel_rfl) ?_
              by_cases fk24 : (ixS (byteAt s (at_).toNat)) ≥ 0
              · skip
                refine J.head (.bool true) (congrArg Value.bool (decide_eq_true fk24)) ?_
                refine J.run 7 K34_76 [(6, .int .i64 0), (5, .int .i64 1), (4, .int .i64 3)] w18 (by kernel_rfl) ?_
                refine J.ret Tryd.f34 [.int .i64 3, .int .i64 1, .int .i64 0] Tryd.func34 ⟨by kernel_rfl, by kernel_rfl, by kernel_rfl, trivial⟩ ?_
                refine hR _ _ ?_
                have hb : ¬ (b2 c = 32 ∨ b2 c = 9) := by rw [hc]; omega
                have hl : letB (b2 c) = false := by rw [hc]; exact fk3
                have hn : numB (c :: r) = false := numB_no (by omega) hr hc hr2 fk5 (by first | exact .inl (by omega) | exact .inr (.inl (by omega)) | exact .inr (.inr rfl))
                have hsy := ixS_sym (c := byteAt s (at_).toNat) (by omega) (by omega)
                obtain ⟨e1, e2, e3⟩ := tokF3 (k := 3) (n := 1) (e := 0) ((tok_sym hb hl hn).trans (by rw [hc, ← hsy, decide_eq_true (by omega)]; rfl)) (by omega)
                exact ⟨by rw [tup_three, hr, e1, e2, e3] <;> try rw [hr], S18.nil⟩
              · skip
                refine J.head (.bool false) (congrArg Value.bool (decide_eq_false fk24)) ?_
                refine J.run 9 K34_77 [(6, .int .i64 3), (5, .int .i64 0), (4, .int .i64 0)] w18 (by kernel_rfl) ?_
                refine J.ret Tryd.f34 [.int .i64 0, .int .i64 0, .int .i64 3] Tryd.func34 ⟨by kernel_rfl, by kernel_rfl, by kernel_rfl, trivial⟩ ?_
                refine hR _ _ ?_
                have hb : ¬ (b2 c = 32 ∨ b2 c = 9) := by rw [hc]; omega
                have hl : letB (b2 c) = false := by rw [hc]; exact fk3
                have hn : numB (c :: r) = false := numB_no (by omega) hr hc hr2 fk5 (by first | exact .inl (by omega) | exact .inr (.inl (by omega)) | exact .inr (.inr rfl))
                have hsy := ixS_sym (c := byteAt s (at_).toNat) (by omega) (by omega)
                obtain ⟨e1, e2, e3⟩ := tokF3 (k := 0) (n := 0) (e := 3) ((tok_sym hb hl hn).trans (by rw [hc, ← hsy, decide_eq_false (by omega)]; rfl)) (by omega)
                exact ⟨by rw [tup_three, hr, e1, e2, e3] <;> try rw [hr], S18.nil⟩
          · skip
            refine J.head (.bool false) (congrArg Value.bool (beq_eq_false_iff_ne.2 fk13)) ?_
            refine J.run 20 K34_78 [(95, .int .u8 (byteAt s (at_).toNat))] w3 (by kernel_rfl) ?_
            refine J.callF 96 55 #[.string ⟨#[40, 41, 44, 61, 58, 59, 42, 47, 94]⟩, .int .u8 (byteAt s (at_).toNat)] hb55 (by kernel_rfl) (ixs_any (byteAt s (at_).toNat) _) ?_
            rintro _ w19 ⟨rfl, T19⟩
            have S19 : Sep w [] w19 := S3.trans T19
            clear T19 S3
            refine J.run 3 K34_79 [(94, .bool (decide ((ixS (byteAt s (at_).toNat)) ≥ 0)))] w19 (by kernel_rfl) ?_
            by_cases fk25 : (ixS (byteAt s (at_).toNat)) ≥ 0
            · skip
              refine J.head (.bool true) (congrArg Value.bool (decide_eq_true fk25)) ?_
              refine J.run 7 K34_80 [(6, .int .i64 0), (5, .int .i64 1), (4, .int .i64 3)] w19 (by kernel_rfl) ?_
              refine J.ret Tryd.f34 [.int .i64 3, .int .i64 1, .int .i64 0] Tryd.func34 ⟨by kernel_rfl, by kernel_rfl, by kernel_rfl, trivial⟩ ?_
              refine hR _ _ ?_
              have hb : ¬ (b2 c = 32 ∨ b2 c = 9) := by rw [hc]; omega
              have hl : letB (b2 c) = false := by rw [hc]; exact fk3
              have hn : numB (c :: r) = false := numB_no (by omega) hr hc hr2 fk5 (by first | exact .inl (by omega) | exact .inr (.inl (by omega)) | exact .inr (.inr rfl))
              have hsy := ixS_sym (c := byteAt s (at_).toNat) (by omega) (by omega)
              obtain ⟨e1, e2, e3⟩ := tokF3 (k := 3) (n := 1) (e := 0) ((tok_sym hb hl hn).trans (by rw [hc, ← hsy, decide_eq_true (by omega)]; rfl)) (by omega)
              exact ⟨by rw [tup_three, hr, e1, e2, e3] <;> try rw [hr], S19.nil⟩
            · skip
              refine J.head (.bool false) (congrArg Value.bool (decide_eq_false fk25)) ?_
              refine J.run 9 K34_81 [(6, .int .i64 3), (5, .int .i64 0), (4, .int .i64 0)] w19 (by kernel_rfl) ?_
              refine J.ret Tryd.f34 [.int .i64 0, .int .i64 0, .int .i64 3] Tryd.func34 ⟨by kernel_rfl, by kernel_rfl, by kernel_rfl, trivial⟩ ?_
              refine hR _ _ ?_
              have hb : ¬ (b2 c = 32 ∨ b2 c = 9) := by rw [hc]; omega
              have hl : letB (b2 c) = false := by rw [hc]; exact fk3
              have hn : numB (c :: r) = false := numB_no (by omega) hr hc hr2 fk5 (by first | exact .inl (by omega) | exact .inr (.inl (by omega)) | exact .inr (.inr rfl))
              have hsy := ixS_sym (c := byteAt s (at_).toNat) (by omega) (by omega)
              obtain ⟨e1, e2, e3⟩ := tokF3 (k := 0) (n := 0) (e := 3) ((tok_sym hb hl hn).trans (by rw [hc, ← hsy, decide_eq_false (by omega)]; rfl)) (by omega)
              exact ⟨by rw [tup_three, hr, e1, e2, e3] <;> try rw [hr], S19.nil⟩

end Go.Proofs.YtlklealllohmgaaDoor
