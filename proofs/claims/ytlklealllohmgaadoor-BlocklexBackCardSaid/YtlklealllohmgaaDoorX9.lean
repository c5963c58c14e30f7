/- Walks of functions of this seat, printed by a program over the engine. Conditions: as each theorem says. -/
import Derived.Test.YtlklealllohmgaaDoorX8
namespace Go.Proofs.YtlklealllohmgaaDoor
open Go.Eng Go.RowKit
set_option linter.unusedSimpArgs false
set_option linter.unusedVariables false
theorem hb19 : HasBody Tryd.prog 19 := fun _ _ => by kernel_rfl
noncomputable def K19_0 : List Item := adv 6 [] (bodyOf Tryd.f19)
noncomputable def K19_1 : List Item := adv 1 [] (popK K19_0)
noncomputable def K19_2 : List Item := adv 1 [] (popK K19_1)
noncomputable def K19_3 : List Item := adv 6 [] K19_2
noncomputable def K19_4 : List Item := adv 1 [] (popK K19_2)
noncomputable def K19_5 : List Item := adv 3 [] (popK K19_4)
set_option maxRecDepth 20000 in
set_option maxHeartbeats 20000000 in
theorem reserved_any (s : ByteArray) (w : World) : Ret Tryd.prog 19 #[.string s] w (fun v w' => v = .bool (resB s) ∧ Sep w [] w') := by
  have S0 := Sep.refl w
  refine Ret.named fun R hR => ?_
  refine Ret.of_J (N := 11) [(0, .string s)] Tryd.func19 rfl rfl (Nat.le_of_ble_eq_true (by kernel_rfl)) (by kernel_rfl) ?_
  have hk21 : kindsL.length = 21 := rfl
  refine J.run 6 K19_0 [(0, .string s)] w (by kernel_rfl) ?_
  refine J.callF 3 17 #[] hb17 (by kernel_rfl) (kinds_any  _) ?_
  rintro _ w1 ⟨ra1, rc1, rfl, T1⟩
  have S1 : Sep w [rowOf (enc1 Value.string) ra1 rc1 9 1 kindsL] w1 := S0.trans T1
  clear T1
  refine J.run 1 K19_1 [(4, .string s), (3, .slice ra1 kindsL.length rc1), (0, .string s)] w1 (by kernel_rfl) ?_
  have := rowOf_len (S1.nth 0 rfl)
  refine J.callF 5 21 #[.slice ra1 kindsL.length rc1, .string s] hb21 (by kernel_rfl) (containsS ra1 kindsL.length rc1 kindsL s _ ((row1_ones (S1.nth 0 rfl) kindsL.length (by first | rfl | omega | simp))) (by first | omega | (simp; omega))) ?_
  rintro _ w2 ⟨rfl, T2⟩
  have S2 : Sep w [rowOf (enc1 Value.string) ra1 rc1 9 1 kindsL] w2 := S1.trans T2
  clear T2 S1
  refine J.run 1 K19_2 [(6, .bool (List.any kindsL (eqT s))), (0, .string s)] w2 (by kernel_rfl) ?_
  rcases Bool.eq_false_or_eq_true (List.any kindsL (eqT s)) with fk1 | fk1
  · skip
    refine J.head (.bool true) (congrArg Value.bool fk1) ?_
    refine J.run 6 K19_3 [(2, .bool true)] w2 (by kernel_rfl) ?_
    refine J.ret Tryd.f19 [.bool true] Tryd.func19 ⟨by kernel_rfl, trivial⟩ ?_
    refine hR _ _ ?_
    exact ⟨congrArg Value.bool (by unfold resB resL; simp [fk1]), S2.nil⟩
  · skip
    refine J.head (.bool false) (congrArg Value.bool fk1) ?_
    refine J.newSlice S2 7 7 [.string ⟨#[116, 121, 112, 101]⟩, .string ⟨#[105, 110]⟩, .string ⟨#[111, 117, 116]⟩, .string ⟨#[98, 108, 111, 99, 107]⟩, .string ⟨#[117, 110, 115, 105, 103, 110, 101, 100]⟩, .string ⟨#[115, 105, 103, 110, 101, 100]⟩, .string ⟨#[100, 105, 97, 103, 114, 97, 109]⟩] 9 (by kernel_rfl) ?_
    intro b1 w3 S3
    refine J.run 1 K19_4 [(8, .string s), (7, .slice (some ⟨b1, 0, none⟩) 7 7), (6, .bool false)] w3 (by kernel_rfl) ?_
    refine J.callF 9 21 #[.slice (some ⟨b1, 0, none⟩) 7 7, .string s] hb21 (by kernel_rfl) (containsS (some ⟨b1, 0, none⟩) 7 7 ([⟨#[116, 121, 112, 101]⟩, ⟨#[105, 110]⟩, ⟨#[111, 117, 116]⟩, ⟨#[98, 108, 111, 99, 107]⟩, ⟨#[117, 110, 115, 105, 103, 110, 101, 100]⟩, ⟨#[115, 105, 103, 110, 101, 100]⟩, ⟨#[100, 105, 97, 103, 114, 97, 109]⟩]) s _ ((show Ones Value.string w3 (some ⟨b1, 0, none⟩) 7 [⟨#[116, 121, 112, 101]⟩, ⟨#[105, 110]⟩, ⟨#[111, 117, 116]⟩, ⟨#[98, 108, 111, 99, 107]⟩, ⟨#[117, 110, 115, 105, 103, 110, 101, 100]⟩, ⟨#[115, 105, 103, 110, 101, 100]⟩, ⟨#[100, 105, 97, 103, 114, 97, 109]⟩] from ⟨rfl, box_cells (S3.nth 0 rfl)⟩)) (by first | omega | (simp; omega))) ?_
    rintro _ w4 ⟨rfl, T3⟩
    have S4 : Sep w [box b1 [.string ⟨#[116, 121, 112, 101]⟩, .string ⟨#[105, 110]⟩, .string ⟨#[111, 117, 116]⟩, .string ⟨#[98, 108, 111, 99, 107]⟩, .string ⟨#[117, 110, 115, 105, 103, 110, 101, 100]⟩, .string ⟨#[115, 105, 103, 110, 101, 100]⟩, .string ⟨#[100, 105, 97, 103, 114, 97, 109]⟩] 9, rowOf (enc1 Value.string) ra1 rc1 9 1 kindsL] w4 := S3.trans T3
    clear T3 S3
    refine J.run 3 K19_5 [(2, .bool (List.any ([⟨#[116, 121, 112, 101]⟩, ⟨#[105, 110]⟩, ⟨#[111, 117, 116]⟩, ⟨#[98, 108, 111, 99, 107]⟩, ⟨#[117, 110, 115, 105, 103, 110, 101, 100]⟩, ⟨#[115, 105, 103, 110, 101, 100]⟩, ⟨#[100, 105, 97, 103, 114, 97, 109]⟩]) (eqT s)))] w4 (by kernel_rfl) ?_
    refine J.ret Tryd.f19 [.bool (List.any ([⟨#[116, 121, 112, 101]⟩, ⟨#[105, 110]⟩, ⟨#[111, 117, 116]⟩, ⟨#[98, 108, 111, 99, 107]⟩, ⟨#[117, 110, 115, 105, 103, 110, 101, 100]⟩, ⟨#[115, 105, 103, 110, 101, 100]⟩, ⟨#[100, 105, 97, 103, 114, 97, 109]⟩]) (eqT s))] Tryd.func19 ⟨by kernel_rfl, trivial⟩ ?_
    refine hR _ _ ?_
    exact ⟨congrArg Value.bool (by unfold resB resL; simp [fk1]), S4.nil⟩

theorem hb31 : HasBody Tryd.prog 31 := fun _ _ => by kernel_rfl
noncomputable def K31_0 : List Item := adv 7 [] (bodyOf Tryd.f31)
noncomputable def K31_1 : List Item := adv 22 [] (popK K31_0)
noncomputable def K31_2 : List Item := adv 7 [true, true] K31_1
noncomputable def K31_3 : List Item := adv 6 [false] K31_1
noncomputable def K31_4 : List Item := adv 7 [true, true] K31_3
noncomputable def K31_5 : List Item := adv 6 [false] K31_3
noncomputable def K31_6 : List Item := adv 7 [true, true] K31_5
noncomputable def K31_7 : List Item := adv 6 [false] K31_5
noncomputable def K31_8 : List Item := adv 7 [true, true] K31_7
noncomputable def K31_9 : List Item := adv 6 [false] K31_7
noncomputable def K31_10 : List Item := adv 7 [true, true] K31_9
noncomputable def K31_11 : List Item := adv 6 [false] K31_9
noncomputable def K31_12 : List Item := adv 7 [true, true] K31_11
noncomputable def K31_13 : List Item := adv 5 [false] K31_11
noncomputable def K31_14 : List Item := adv 5 [true] K31_13
noncomputable def K31_15 : List Item := adv 8 [false] K31_13
set_option maxRecDepth 20000 in
set_option maxHeartbeats 20000000 in
theorem rreserved_any (s : ByteArray) (w : World) : Ret Tryd.prog 31 #[.string s] w (fun v w' => v = .bool (resB s) ∧ Sep w [] w') := by
  have S0 := Sep.refl w
  refine Ret.named fun R hR => ?_
  refine Ret.of_J (N := 24) [(0, .string s)] Tryd.func31 rfl rfl (Nat.le_of_ble_eq_true (by kernel_rfl)) (by kernel_rfl) ?_
  refine J.run 7 K31_0 [(8, .string s), (0, .string s)] w (by kernel_rfl) ?_
  refine J.callF 9 27 #[.string s] hb27 (by kernel_rfl) (rkind_any s _) ?_
  rintro _ w1 ⟨rfl, T1⟩
  have S1 : Sep w [] w1 := S0.trans T1
  clear T1
  refine J.run 22 K31_1 [(15, .bool (s.toList == (⟨#[116, 121, 112, 101]⟩ : ByteArray).toList)), (14, .string s), (6, .bool (kO s))] w1 (by kernel_rfl) ?_
  rcases Bool.eq_false_or_eq_true (s.toList == (⟨#[116, 121, 112, 101]⟩ : ByteArray).toList) with fk1 | fk1
  · skip
    refine J.head (.bool true) (congrArg Value.bool fk1) ?_
    refine J.run 7 K31_2 [(2, .bool true)] w1 (by kernel_rfl) ?_
    refine J.ret Tryd.f31 [.bool true] Tryd.func31 ⟨by kernel_rfl, trivial⟩ ?_
    refine hR _ _ ?_
    have e_ := eqT_eq (a := s) (b := (⟨#[116, 121, 112, 101]⟩ : ByteArray)) fk1
    subst e_
    exact ⟨by kernel_rfl, S1.nil⟩
  · skip
    refine J.head (.bool false) (congrArg Value.bool fk1) ?_
    refine J.run 6 K31_3 [(15, .bool (s.toList == (⟨#[105, 110]⟩ : ByteArray).toList)), (14, .string s), (6, .bool (kO s))] w1 (by kernel_rfl) ?_
    rcases Bool.eq_false_or_eq_true (s.toList == (⟨#[105, 110]⟩ : ByteArray).toList) with fk2 | fk2
    · skip
      refine J.head (.bool true) (congrArg Value.bool fk2) ?_
      refine J.run 7 K31_4 [(2, .bool true)] w1 (by kernel_rfl) ?_
      refine J.ret Tryd.f31 [.bool true] Tryd.func31 ⟨by kernel_rfl, trivial⟩ ?_
      refine hR _ _ ?_
      have e_ := eqT_eq (a := s) (b := (⟨#[105, 110]⟩ : ByteArray)) fk2
      subst e_
      exact ⟨by kernel_rfl, S1.nil⟩
    · skip
      refine J.head (.bool false) (congrArg Value.bool fk2) ?_
      refine J.run 6 K31_5 [(15, .bool (s.toList == (⟨#[111, 117, 116]⟩ : ByteArray).toList)), (14, .string s), (6, .bool (kO s))] w1 (by kernel_rfl) ?_
      rcases Bool.eq_false_or_eq_true (s.toList == (⟨#[111, 117, 116]⟩ : ByteArray).toList) with fk3 | fk3
      · skip
        refine J.head (.bool true) (congrArg Value.bool fk3) ?_
        refine J.run 7 K31_6 [(2, .bool true)] w1 (by kernel_rfl) ?_
        refine J.ret Tryd.f31 [.bool true] Tryd.func31 ⟨by kernel_rfl, trivial⟩ ?_
        refine hR _ _ ?_
        have e_ := eqT_eq (a := s) (b := (⟨#[111, 117, 116]⟩ : ByteArray)) fk3
        subst e_
        exact ⟨by kernel_rfl, S1.nil⟩
      · skip
        refine J.head (.bool false) (congrArg Value.bool fk3) ?_
        refine J.run 6 K31_7 [(15, .bool (s.toList == (⟨#[98, 108, 111, 99, 107]⟩ : ByteArray).toList)), (14, .string s), (6, .bool (kO s))] w1 (by kernel_rfl) ?_
        rcases Bool.eq_false_or_eq_true (s.toList == (⟨#[98, 108, 111, 99, 107]⟩ : ByteArray).toList) with fk4 | fk4
        · skip
          refine J.head (.bool true) (congrArg Value.bool fk4) ?_
          refine J.run 7 K31_8 [(2, .bool true)] w1 (by kernel_rfl) ?_
          refine J.ret Tryd.f31 [.bool true] Tryd.func31 ⟨by kernel_rfl, trivial⟩ ?_
          refine hR _ _ ?_
          have e_ := eqT_eq (a := s) (b := (⟨#[98, 108, 111, 99, 107]⟩ : ByteArray)) fk4
          subst e_
          exact ⟨by kernel_rfl, S1.nil⟩
        · skip
          refine J.head (.bool false) (congrArg Value.bool fk4) ?_
          refine J.run 6 K31_9 [(15, .bool (s.toList == (⟨#[117, 110, 115, 105, 103, 110, 101, 100]⟩ : ByteArray).toList)), (14, .string s), (6, .bool (kO s))] w1 (by kernel_rfl) ?_
          rcases Bool.eq_false_or_eq_true (s.toList == (⟨#[117, 110, 115, 105, 103, 110, 101, 100]⟩ : ByteArray).toList) with fk5 | fk5
          · skip
            refine J.head (.bool true) (congrArg Value.bool fk5) ?_
            refine J.run 7 K31_10 [(2, .bool true)] w1 (by kernel_rfl) ?_
            refine J.ret Tryd.f31 [.bool true] Tryd.func31 ⟨by kernel_rfl, trivial⟩ ?_
            refine hR _ _ ?_
            have e_ := eqT_eq (a := s) (b := (⟨#[117, 110, 115, 105, 103, 110, 101, 100]⟩ : ByteArray)) fk5
            subst e_
            exact ⟨by kernel_rfl, S1.nil⟩
          · skip
            refine J.head (.bool false) (congrArg Value.bool fk5) ?_
            refine J.run 6 K31_11 [(15, .bool (s.toList == (⟨#[115, 105, 103, 110, 101, 100]⟩ : ByteArray).toList)), (14, .string s), (6, .bool (kO s))] w1 (by kernel_rfl) ?_
            rcases Bool.eq_false_or_eq_true (s.toList == (⟨#[115, 105, 103, 110, 101, 100]⟩ : ByteArray).toList) with fk6 | fk6
            · skip
              refine J.head (.bool true) (congrArg Value.bool fk6) ?_
              refine J.run 7 K31_12 [(2, .bool true)] w1 (by kernel_rfl) ?_
              refine J.ret Tryd.f31 [.bool true] Tryd.func31 ⟨by kernel_rfl, trivial⟩ ?_
              refine hR _ _ ?_
              have e_ := eqT_eq (a := s) (b := (⟨#[115, 105, 103, 110, 101, 100]⟩ : ByteArray)) fk6
              subst e_
              exact ⟨by kernel_rfl, S1.nil⟩
            · skip
              refine J.head (.bool false) (congrArg Value.bool fk6) ?_
              refine J.run 5 K31_13 [(15, .bool (s.toList == (⟨#[100, 105, 97, 103, 114, 97, 109]⟩ : ByteArray).toList)), (6, .bool (kO s))] w1 (by kernel_rfl) ?_
              rcases Bool.eq_false_or_eq_true (s.toList == (⟨#[100, 105, 97, 103, 114, 97, 109]⟩ : ByteArray).toList) with fk7 | fk7
              · skip
                refine J.head (.bool true) (congrArg Value.bool fk7) ?_
                refine J.run 5 K31_14 [(2, .bool true)] w1 (by kernel_rfl) ?_
                refine J.ret Tryd.f31 [.bool true] Tryd.func31 ⟨by kernel_rfl, trivial⟩ ?_
                refine hR _ _ ?_
                have e_ := eqT_eq (a := s) (b := (⟨#[100, 105, 97, 103, 114, 97, 109]⟩ : ByteArray)) fk7
                subst e_
                exact ⟨by kernel_rfl, S1.nil⟩
              · skip
                refine J.head (.bool false) (congrArg Value.bool fk7) ?_
                refine J.run 8 K31_15 [(2, .bool (kO s))] w1 (by kernel_rfl) ?_
                refine J.ret Tryd.f31 [.bool (kO s)] Tryd.func31 ⟨by kernel_rfl, trivial⟩ ?_
                refine hR _ _ ?_
                exact ⟨congrArg Value.bool (by unfold resB; rw [← kO_any, show resL.any (eqT s) = false from any_no_cons (x := (⟨#[116, 121, 112, 101]⟩ : ByteArray)) fk1 (any_no_cons (x := (⟨#[105, 110]⟩ : ByteArray)) fk2 (any_no_cons (x := (⟨#[111, 117, 116]⟩ : ByteArray)) fk3 (any_no_cons (x := (⟨#[98, 108, 111, 99, 107]⟩ : ByteArray)) fk4 (any_no_cons (x := (⟨#[117, 110, 115, 105, 103, 110, 101, 100]⟩ : ByteArray)) fk5 (any_no_cons (x := (⟨#[115, 105, 103, 110, 101, 100]⟩ : ByteArray)) fk6 (any_no_cons (x := (⟨#[100, 105, 97, 103, 114, 97, 109]⟩ : ByteArray)) fk7 (rfl))))))), Bool.or_false]), S1.nil⟩

theorem hb20 : HasBody Tryd.prog 20 := fun _ _ => by kernel_rfl
noncomputable def K20_0 : List Item := adv 8 [] (bodyOf Tryd.f20)
noncomputable def K20_1 : List Item := adv 1 [] K20_0
noncomputable def K20_2 : List Item := adv 23 [] K20_1
noncomputable def K20_3 : List Item := adv 5 [] K20_1
noncomputable def K20_4 : List Item := adv 1 [] K20_3
noncomputable def K20_5 : List Item := adv 2 [] (popK (popK K20_4))
noncomputable def K20_6 : List Item := adv 1 [] K20_5
noncomputable def K20_7 : List Item := adv 5 [] (popK K20_6)
noncomputable def K20_8 : List Item := adv 1 [] K20_7
noncomputable def K20_9 : List Item := adv 4 [] (popK K20_8)
noncomputable def K20_10 : List Item := adv 6 [] K20_7
noncomputable def K20_11 : List Item := adv 13 [] K20_5
noncomputable def K20_12 : List Item := adv 18 [] K20_3
set_option maxRecDepth 20000 in
set_option maxHeartbeats 20000000 in
theorem name_any (s : ByteArray) (w : World) (hs : s.size ≤ 1099511627776) : Ret Tryd.prog 20 #[.string s] w (fun v w' => v = .bool (nameB s) ∧ Sep w [] w') := by
  have S0 := Sep.refl w
  refine Ret.named fun R hR => ?_
  refine Ret.of_J (N := 27) [(0, .string s)] Tryd.func20 rfl rfl (Nat.le_of_ble_eq_true (by kernel_rfl)) (by kernel_rfl) ?_
  have hd0_ : (ls s).drop (0 : Int).toNat = ls s := rfl
  refine J.run 8 K20_0 [(4, .bool (!(s.toList == (⟨#[]⟩ : ByteArray).toList))), (0, .string s)] w (by kernel_rfl) ?_
  refine J.head (.bool ((s.size : Int) != 0)) (congrArg Value.bool (beq_nil_neq _)) ?_
  refine J.run 1 K20_1 [(5, .bool ((s.size : Int) != 0)), (0, .string s)] w (by kernel_rfl) ?_
  by_cases fk1 : (s.size : Int) = 0
  · skip
    refine J.head (.bool false) (congrArg Value.bool (bne_eq_false_iff_eq.2 fk1)) ?_
    refine J.run 23 K20_2 [(2, .bool false)] w (by kernel_rfl) ?_
    refine J.ret Tryd.f20 [.bool false] Tryd.func20 ⟨by kernel_rfl, trivial⟩ ?_
    refine hR _ _ ?_
    have hd0 : runL innB (List.drop (Int.toNat 0) (ls s)) = runL innB (ls s) := rfl
    exact ⟨congrArg Value.bool (name_no (by first | exact .inl (by omega) | exact .inr (.inl (by omega)) | exact .inr (.inr (.inl rfl)) | exact .inr (.inr (.inr (by omega))))).symm, S0.nil⟩
  · skip
    refine J.head (.bool true) (congrArg Value.bool (bne_iff_ne.2 fk1)) ?_
    refine J.run 5 K20_3 [(10, .bool (decide ((s.size : Int) ≤ 24))), (0, .string s)] w (by kernel_rfl) ?_
    by_cases fk2 : (s.size : Int) ≤ 24
    · skip
      refine J.head (.bool true) (congrArg Value.bool (decide_eq_true fk2)) ?_
      refine J.run 1 K20_4 [(11, .string s), (10, .bool true), (0, .string s)] w (by kernel_rfl) ?_
      have := byteAt_bounds s 0
      refine J.ok (OK.byte 12 9 s (0 : Int) (byteAt s 0) (by kernel_rfl) (by kernel_rfl) (by omega) (by omega) (rfl)) ?_
      refine J.callF 13 46 #[.int .u8 (byteAt s 0)] hb46 (by kernel_rfl) (letter_any (byteAt s 0) _) ?_
      rintro _ w1 ⟨rfl, T1⟩
      have S1 : Sep w [] w1 := S0.trans T1
      clear T1
      refine J.run 2 K20_5 [(15, .bool (letB (byteAt s 0))), (0, .string s)] w1 (by kernel_rfl) ?_
      rcases Bool.eq_false_or_eq_true (letB (byteAt s 0)) with fk3 | fk3
      · skip
        refine J.head (.bool true) (congrArg Value.bool fk3) ?_
        refine J.run 1 K20_6 [(16, .string s), (15, .bool true), (0, .string s)] w1 (by kernel_rfl) ?_
        refine J.callF 17 47 #[.string s, .int .i64 0, .func (.func 48) #[] #[]] hb47 (by kernel_rfl) (run_any s (0 : Int) 48 innB _ (by omega) (by omega) hb48 (fun c w2 _ _ => inner_any c w2)) ?_
        rintro _ w2 ⟨rfl, T2⟩
        have S2 : Sep w [] w2 := S1.trans T2
        have hrl1 := runL_le innB ((ls s).drop ((0 : Int)).toNat); rw [List.length_drop, ls_length] at hrl1
        refine J.run 5 K20_7 [(22, .bool ((runL innB ((ls s).drop (0 : Int).toNat) : Int) == (s.size : Int))), (0, .string s)] w2 (by kernel_rfl) ?_
        by_cases fk4 : (runL innB ((ls s).drop (0 : Int).toNat) : Int) = (s.size : Int)
        · skip
          refine J.head (.bool true) (congrArg Value.bool (beq_iff_eq.2 fk4)) ?_
          refine J.run 1 K20_8 [(23, .string s), (22, .bool true)] w2 (by kernel_rfl) ?_
          refine J.callF 24 19 #[.string s] hb19 (by kernel_rfl) (reserved_any s _) ?_
          rintro _ w3 ⟨rfl, T3⟩
          have S3 : Sep w [] w3 := S2.trans T3
          clear T3 S2
          refine J.run 4 K20_9 [(2, .bool (!(resB s)))] w3 (by kernel_rfl) ?_
          refine J.ret Tryd.f20 [.bool (!(resB s))] Tryd.func20 ⟨by kernel_rfl, trivial⟩ ?_
          refine hR _ _ ?_
          have hd0 : runL innB (List.drop (Int.toNat 0) (ls s)) = runL innB (ls s) := rfl
          exact ⟨congrArg Value.bool ((name_yes (by omega) (by omega) fk3 (by omega)).trans (by simp)).symm, S3.nil⟩
        · skip
          refine J.head (.bool false) (congrArg Value.bool (beq_eq_false_iff_ne.2 fk4)) ?_
          refine J.run 6 K20_10 [(2, .bool false)] w2 (by kernel_rfl) ?_
          refine J.ret Tryd.f20 [.bool false] Tryd.func20 ⟨by kernel_rfl, trivial⟩ ?_
          refine hR _ _ ?_
          have hd0 : runL innB (List.drop (Int.toNat 0) (ls s)) = runL innB (ls s) := rfl
          exact ⟨congrArg Value.bool (name_no (by first | exact .inl (by omega) | exact .inr (.inl (by omega)) | exact .inr (.inr (.inl fk3)) | exact .inr (.inr (.inr (by omega))))).symm, S2.nil⟩
      · skip
        refine J.head (.bool false) (congrArg Value.bool fk3) ?_
        refine J.run 13 K20_11 [(2, .bool false)] w1 (by kernel_rfl) ?_
        refine J.ret Tryd.f20 [.bool false] Tryd.func20 ⟨by kernel_rfl, trivial⟩ ?_
        refine hR _ _ ?_
        have hd0 : runL innB (List.drop (Int.toNat 0) (ls s)) = runL innB (ls s) := rfl
        exact ⟨congrArg Value.bool (name_no (by first | exact .inl (by omega) | exact .inr (.inl (by omega)) | exact .inr (.inr (.inl fk3)) | exact .inr (.inr (.inr (by omega))))).symm, S1.nil⟩
    · skip
      refine J.head (.bool false) (congrArg Value.bool (decide_eq_false fk2)) ?_
      refine J.run 18 K20_12 [(2, .bool false)] w (by kernel_rfl) ?_
      refine J.ret Tryd.f20 [.bool false] Tryd.func20 ⟨by kernel_rfl, trivial⟩ ?_
      refine hR _ _ ?_
      have hd0 : runL innB (List.drop (Int.toNat 0) (ls s)) = runL innB (ls s) := rfl
      exact ⟨congrArg Value.bool (name_no (by first | exact .inl (by omega) | exact .inr (.inl (by omega)) | exact .inr (.inr (.inl rfl)) | exact .inr (.inr (.inr (by omega))))).symm, S0.nil⟩

theorem hb32 : HasBody Tryd.prog 32 := fun _ _ => by kernel_rfl
noncomputable def K32_0 : List Item := adv 8 [] (bodyOf Tryd.f32)
noncomputable def K32_1 : List Item := adv 1 [] K32_0
noncomputable def K32_2 : List Item := adv 18 [] K32_1
noncomputable def K32_3 : List Item := adv 5 [] K32_1
noncomputable def K32_4 : List Item := adv 1 [] K32_3
noncomputable def K32_5 : List Item := adv 5 [] (popK K32_4)
noncomputable def K32_6 : List Item := adv 1 [] K32_5
noncomputable def K32_7 : List Item := adv 4 [] (popK K32_6)
noncomputable def K32_8 : List Item := adv 6 [] K32_5
noncomputable def K32_9 : List Item := adv 13 [] K32_3
set_option maxRecDepth 20000 in
set_option maxHeartbeats 20000000 in
theorem rname_any (s : ByteArray) (w : World) (hs : s.size ≤ 1099511627776) : Ret Tryd.prog 32 #[.string s] w (fun v w' => v = .bool (nameB s) ∧ Sep w [] w') := by
  have S0 := Sep.refl w
  refine Ret.named fun R hR => ?_
  refine Ret.of_J (N := 22) [(0, .string s)] Tryd.func32 rfl rfl (Nat.le_of_ble_eq_true (by kernel_rfl)) (by kernel_rfl) ?_
  refine J.run 8 K32_0 [(4, .bool (!(s.toList == (⟨#[]⟩ : ByteArray).toList))), (0, .string s)] w (by kernel_rfl) ?_
  refine J.head (.bool ((s.size : Int) != 0)) (congrArg Value.bool (beq_nil_neq _)) ?_
  refine J.run 1 K32_1 [(5, .bool ((s.size : Int) != 0)), (0, .string s)] w (by kernel_rfl) ?_
  by_cases fk1 : (s.size : Int) = 0
  · skip
    refine J.head (.bool false) (congrArg Value.bool (bne_eq_false_iff_eq.2 fk1)) ?_
    refine J.run 18 K32_2 [(2, .bool false)] w (by kernel_rfl) ?_
    refine J.ret Tryd.f32 [.bool false] Tryd.func32 ⟨by kernel_rfl, trivial⟩ ?_
    refine hR _ _ ?_
    have hd0 : runL innB (List.drop (Int.toNat 0) (ls s)) = runL innB (ls s) := rfl
    exact ⟨congrArg Value.bool (name_no (by by_cases h0_ : s.size = 0; exact .inl h0_; by_cases h1_ : 24 < s.size; exact .inr (.inl h1_); cases hl_ : letB (byteAt s 0); exact .inr (.inr (.inl rfl)); (have := word_some h0_ hl_; exact .inr (.inr (.inr (by omega)))))).symm, S0.nil⟩
  · skip
    refine J.head (.bool true) (congrArg Value.bool (bne_iff_ne.2 fk1)) ?_
    refine J.run 5 K32_3 [(10, .bool (decide ((s.size : Int) ≤ 24))), (0, .string s)] w (by kernel_rfl) ?_
    by_cases fk2 : (s.size : Int) ≤ 24
    · skip
      refine J.head (.bool true) (congrArg Value.bool (decide_eq_true fk2)) ?_
      refine J.run 1 K32_4 [(11, .string s), (10, .bool true), (0, .string s)] w (by kernel_rfl) ?_
      refine J.callF 12 36 #[.string s] hb36 (by kernel_rfl) (rword_any s _ (by omega)) ?_
      rintro _ w1 ⟨rfl, T1⟩
      have S1 : Sep w [] w1 := S0.trans T1
      clear T1
      refine J.run 5 K32_5 [(17, .bool ((wordF (ls s)) == (s.size : Int))), (0, .string s)] w1 (by kernel_rfl) ?_
      by_cases fk3 : (wordF (ls s)) = (s.size : Int)
      · skip
        refine J.head (.bool true) (congrArg Value.bool (beq_iff_eq.2 fk3)) ?_
        refine J.run 1 K32_6 [(18, .string s), (17, .bool true)] w1 (by kernel_rfl) ?_
        refine J.callF 19 31 #[.string s] hb31 (by kernel_rfl) (rreserved_any s _) ?_
        rintro _ w2 ⟨rfl, T2⟩
        have S2 : Sep w [] w2 := S1.trans T2
        clear T2 S1
        refine J.run 4 K32_7 [(2, .bool (!(resB s)))] w2 (by kernel_rfl) ?_
        refine J.ret Tryd.f32 [.bool (!(resB s))] Tryd.func32 ⟨by kernel_rfl, trivial⟩ ?_
        refine hR _ _ ?_
        have hd0 : runL innB (List.drop (Int.toNat 0) (ls s)) = runL innB (ls s) := rfl
        have hl_ : letB (byteAt s 0) = true := by cases hl_ : letB (byteAt s 0) with | true => rfl | false => (have := word_zero (s := s) (.inr hl_); exfalso; omega)
        have hw_ := word_some (by omega) hl_
        exact ⟨congrArg Value.bool ((name_yes (by omega) (by omega) hl_ (by omega)).trans (by simp)).symm, S2.nil⟩
      · skip
        refine J.head (.bool false) (congrArg Value.bool (beq_eq_false_iff_ne.2 fk3)) ?_
        refine J.run 6 K32_8 [(2, .bool false)] w1 (by kernel_rfl) ?_
        refine J.ret Tryd.f32 [.bool false] Tryd.func32 ⟨by kernel_rfl, trivial⟩ ?_
        refine hR _ _ ?_
        have hd0 : runL innB (List.drop (Int.toNat 0) (ls s)) = runL innB (ls s) := rfl
        exact ⟨congrArg Value.bool (name_no (by by_cases h0_ : s.size = 0; exact .inl h0_; by_cases h1_ : 24 < s.size; exact .inr (.inl h1_); cases hl_ : letB (byteAt s 0); exact .inr (.inr (.inl rfl)); (have := word_some h0_ hl_; exact .inr (.inr (.inr (by omega)))))).symm, S1.nil⟩
    · skip
      refine J.head (.bool false) (congrArg Value.bool (decide_eq_false fk2)) ?_
      refine J.run 13 K32_9 [(2, .bool false)] w (by kernel_rfl) ?_
      refine J.ret Tryd.f32 [.bool false] Tryd.func32 ⟨by kernel_rfl, trivial⟩ ?_
      refine hR _ _ ?_
      have hd0 : runL innB (List.drop (Int.toNat 0) (ls s)) = runL innB (ls s) := rfl
      exact ⟨congrArg Value.bool (name_no (by by_cases h0_ : s.size = 0; exact .inl h0_; by_cases h1_ : 24 < s.size; exact .inr (.inl h1_); cases hl_ : letB (byteAt s 0); exact .inr (.inr (.inl rfl)); (have := word_some h0_ hl_; exact .inr (.inr (.inr (by omega)))))).symm, S0.nil⟩

theorem hb16 : HasBody Tryd.prog 16 := fun _ _ => by kernel_rfl
noncomputable def K16_0 : List Item := adv 8 [] (bodyOf Tryd.f16)
noncomputable def K16_1 : List Item := adv 14 [] (popK K16_0)
noncomputable def K16_2 : List Item := adv 6 [false] K16_1
noncomputable def K16_3 : List Item := adv 11 [true] K16_2
noncomputable def K16_4 : List Item := adv 5 [] K16_2
noncomputable def K16_5 : List Item := adv 6 [true] K16_4
noncomputable def K16_6 : List Item := adv 9 [false] K16_4
noncomputable def K16_7 : List Item := adv 7 [true] K16_1
set_option maxRecDepth 20000 in
set_option maxHeartbeats 20000000 in
theorem number_any (s : ByteArray) (w : World) (hs : s.size ≤ 281474976710656) (hW : TabW w) : Ret Tryd.prog 16 #[.string s] w (fun v w' => v = .tuple #[.int .i64 (numX s), .int .i64 (numR s)] ∧ Sep w [] w') := by
  have S0 := Sep.refl w
  refine Ret.named fun R hR => ?_
  refine Ret.of_J (N := 23) [(0, .string s)] Tryd.func16 rfl rfl (Nat.le_of_ble_eq_true (by kernel_rfl)) (by kernel_rfl) ?_
  refine J.run 8 K16_0 [(7, .string s)] w (by kernel_rfl) ?_
  refine J.callF 8 44 #[.string s] hb44 (by kernel_rfl) (aparse_any s _ (by omega) (tabW_sep hW S0)) ?_
  rintro _ w1 ⟨rfl, T1⟩
  have S1 : Sep w [] w1 := S0.trans T1
  clear T1
  have := par_bounds s
  refine J.run 14 K16_1 [(11, .bool ((parE s) != 0)), (5, .int .i64 (parE s)), (4, .int .i64 (parX s))] w1 (by kernel_rfl) ?_
  by_cases fk1 : (parE s) = 0
  · skip
    refine J.head (.bool false) (congrArg Value.bool (bne_eq_false_iff_eq.2 fk1)) ?_
    refine J.run 6 K16_2 [(18, .bool (decide ((parX s) > 1099511627776))), (4, .int .i64 (parX s))] w1 (by kernel_rfl) ?_
    by_cases fk2 : (parX s) > 1099511627776
    · skip
      refine J.head (.bool true) (congrArg Value.bool (decide_eq_true fk2)) ?_
      refine J.run 11 K16_3 [(3, .int .i64 2), (2, .int .i64 0)] w1 (by kernel_rfl) ?_
      refine J.ret Tryd.f16 [.int .i64 0, .int .i64 2] Tryd.func16 ⟨by kernel_rfl, by kernel_rfl, trivial⟩ ?_
      refine hR _ _ ?_
      exact ⟨by rw [tup_two]; unfold numX numR; rw [if_neg (by omega), if_pos (by omega), if_neg (by omega)], S1.nil⟩
    · skip
      refine J.head (.bool false) (congrArg Value.bool (decide_eq_false fk2)) ?_
      refine J.run 5 K16_4 [(15, .bool (decide ((parX s) < (-1099511627776)))), (4, .int .i64 (parX s))] w1 (by kernel_rfl) ?_
      by_cases fk3 : (parX s) < (-1099511627776)
      · skip
        refine J.head (.bool true) (congrArg Value.bool (decide_eq_true fk3)) ?_
        refine J.run 6 K16_5 [(3, .int .i64 2), (2, .int .i64 0)] w1 (by kernel_rfl) ?_
        refine J.ret Tryd.f16 [.int .i64 0, .int .i64 2] Tryd.func16 ⟨by kernel_rfl, by kernel_rfl, trivial⟩ ?_
        refine hR _ _ ?_
        exact ⟨by rw [tup_two]; unfold numX numR; rw [if_neg (by omega), if_pos (by omega), if_neg (by omega)], S1.nil⟩
      · skip
        refine J.head (.bool false) (congrArg Value.bool (decide_eq_false fk3)) ?_
        refine J.run 9 K16_6 [(3, .int .i64 0), (2, .int .i64 (parX s))] w1 (by kernel_rfl) ?_
        refine J.ret Tryd.f16 [.int .i64 (parX s), .int .i64 0] Tryd.func16 ⟨by kernel_rfl, by kernel_rfl, trivial⟩ ?_
        refine hR _ _ ?_
        exact ⟨by rw [tup_two]; unfold numX numR; rw [if_pos (by omega), if_pos (by omega), if_pos (by omega)], S1.nil⟩
  · skip
    refine J.head (.bool true) (congrArg Value.bool (bne_iff_ne.2 fk1)) ?_
    refine J.run 7 K16_7 [(3, .int .i64 (parE s)), (2, .int .i64 0)] w1 (by kernel_rfl) ?_
    refine J.ret Tryd.f16 [.int .i64 0, .int .i64 (parE s)] Tryd.func16 ⟨by kernel_rfl, by kernel_rfl, trivial⟩ ?_
    refine hR _ _ ?_
    exact ⟨by rw [tup_two]; unfold numX numR; rw [if_neg (by omega), if_neg (by omega)], S1.nil⟩

theorem hb28 : HasBody Tryd.prog 28 := fun _ _ => by kernel_rfl
noncomputable def K28_0 : List Item := adv 8 [] (bodyOf Tryd.f28)
noncomputable def K28_1 : List Item := adv 12 [] (popK K28_0)
noncomputable def K28_2 : List Item := adv 8 [false] K28_1
noncomputable def K28_3 : List Item := adv 10 [true] K28_2
noncomputable def K28_4 : List Item := adv 4 [] K28_2
noncomputable def K28_5 : List Item := adv 6 [true] K28_4
noncomputable def K28_6 : List Item := adv 8 [false] K28_4
noncomputable def K28_7 : List Item := adv 7 [true] K28_1
set_option maxRecDepth 20000 in
set_option maxHeartbeats 20000000 in
theorem rnumber2_any (s : ByteArray) (w : World) (hs : s.size ≤ 281474976710656) : Ret Tryd.prog 28 #[.string s] w (fun v w' => v = .tuple #[.int .i64 (numX s), .int .i64 (numR s)] ∧ Sep w [] w') := by
  have S0 := Sep.refl w
  refine Ret.named fun R hR => ?_
  refine Ret.of_J (N := 21) [(0, .string s)] Tryd.func28 rfl rfl (Nat.le_of_ble_eq_true (by kernel_rfl)) (by kernel_rfl) ?_
  refine J.run 8 K28_0 [(7, .string s)] w (by kernel_rfl) ?_
  refine J.callF 8 51 #[.string s] hb51 (by kernel_rfl) (rparse_any s _ (by omega)) ?_
  rintro _ w1 ⟨rfl, T1⟩
  have S1 : Sep w [] w1 := S0.trans T1
  clear T1
  have := par_bounds s
  refine J.run 12 K28_1 [(12, .bool ((parE s) != 0)), (5, .int .i64 (parE s)), (4, .int .i64 (parX s))] w1 (by kernel_rfl) ?_
  by_cases fk1 : (parE s) = 0
  · skip
    refine J.head (.bool false) (congrArg Value.bool (bne_eq_false_iff_eq.2 fk1)) ?_
    refine J.run 8 K28_2 [(16, .bool (decide ((parX s) > 1099511627776))), (4, .int .i64 (parX s))] w1 (by kernel_rfl) ?_
    by_cases fk2 : (parX s) > 1099511627776
    · skip
      refine J.head (.bool true) (congrArg Value.bool (decide_eq_true fk2)) ?_
      refine J.run 10 K28_3 [(3, .int .i64 2), (2, .int .i64 0)] w1 (by kernel_rfl) ?_
      refine J.ret Tryd.f28 [.int .i64 0, .int .i64 2] Tryd.func28 ⟨by kernel_rfl, by kernel_rfl, trivial⟩ ?_
      refine hR _ _ ?_
      exact ⟨by rw [tup_two]; unfold numX numR; rw [if_neg (by omega), if_pos (by omega), if_neg (by omega)], S1.nil⟩
    · skip
      refine J.head (.bool false) (congrArg Value.bool (decide_eq_false fk2)) ?_
      refine J.run 4 K28_4 [(19, .bool (decide ((parX s) < (-1099511627776)))), (4, .int .i64 (parX s))] w1 (by kernel_rfl) ?_
      by_cases fk3 : (parX s) < (-1099511627776)
      · skip
        refine J.head (.bool true) (congrArg Value.bool (decide_eq_true fk3)) ?_
        refine J.run 6 K28_5 [(3, .int .i64 2), (2, .int .i64 0)] w1 (by kernel_rfl) ?_
        refine J.ret Tryd.f28 [.int .i64 0, .int .i64 2] Tryd.func28 ⟨by kernel_rfl, by kernel_rfl, trivial⟩ ?_
        refine hR _ _ ?_
        exact ⟨by rw [tup_two]; unfold numX numR; rw [if_neg (by omega), if_pos (by omega), if_neg (by omega)], S1.nil⟩
      · skip
        refine J.head (.bool false) (congrArg Value.bool (decide_eq_false fk3)) ?_
        refine J.run 8 K28_6 [(3, .int .i64 0), (2, .int .i64 (parX s))] w1 (by kernel_rfl) ?_
        refine J.ret Tryd.f28 [.int .i64 (parX s), .int .i64 0] Tryd.func28 ⟨by kernel_rfl, by kernel_rfl, trivial⟩ ?_
        refine hR _ _ ?_
        exact ⟨by rw [tup_two]; unfold numX numR; rw [if_pos (by omega), if_pos (by omega), if_pos (by omega)], S1.nil⟩
  · skip
    refine J.head (.bool true) (congrArg Value.bool (bne_iff_ne.2 fk1)) ?_
    refine J.run 7 K28_7 [(3, .int .i64 (parE s)), (2, .int .i64 0)] w1 (by kernel_rfl) ?_
    refine J.ret Tryd.f28 [.int .i64 0, .int .i64 (parE s)] Tryd.func28 ⟨by kernel_rfl, by kernel_rfl, trivial⟩ ?_
    refine hR _ _ ?_
    exact ⟨by rw [tup_two]; unfold numX numR; rw [if_neg (by omega), if_neg (by omega)], S1.nil⟩

end Go.Proofs.YtlklealllohmgaaDoor
