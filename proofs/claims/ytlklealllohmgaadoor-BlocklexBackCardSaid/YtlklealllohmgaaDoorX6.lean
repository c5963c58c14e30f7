/- Walks of functions of this seat, printed by a program over the engine. Conditions: as each theorem says. -/
import Derived.Test.YtlklealllohmgaaDoorX5
namespace Go.Proofs.YtlklealllohmgaaDoor
open Go.Eng Go.RowKit
set_option linter.unusedSimpArgs false
set_option linter.unusedVariables false
theorem hb36 : HasBody Tryd.prog 36 := fun _ _ => by kernel_rfl
noncomputable def K36_0 : List Item := adv 9 [] (bodyOf Tryd.f36)
noncomputable def K36_1 : List Item := adv 1 [] K36_0
noncomputable def K36_2 : List Item := adv 11 [true] K36_1
noncomputable def K36_3 : List Item := adv 1 [] K36_1
noncomputable def K36_4 : List Item := adv 3 [] (popK (popK K36_3))
noncomputable def K36_5 : List Item := adv 9 [false] K36_4
noncomputable def K36_6 : List Item := adv 8 [] K36_5
noncomputable def K36_7 : List Item := adv 2 [] K36_6
noncomputable def K36_8 : List Item := adv 1 [] (popK (popK K36_7))
noncomputable def K36_9 : List Item := adv 19 [true] K36_8
noncomputable def K36_10 : List Item := adv 2 [] K36_8
noncomputable def K36_11 : List Item := adv 2 [] (popK (popK K36_10))
noncomputable def K36_12 : List Item := adv 13 [true] K36_11
noncomputable def K36_13 : List Item := adv 2 [] K36_11
noncomputable def K36_14 : List Item := adv 4 [] (popK K36_13)
noncomputable def K36_15 : List Item := adv 6 [true] K36_14
noncomputable def K36_16 : List Item := adv 7 [false] K36_14
noncomputable def K36_17 : List Item := adv 25 [false] K36_6
noncomputable def K36_18 : List Item := adv 5 [true] K36_4
set_option maxRecDepth 20000 in
set_option maxHeartbeats 20000000 in
theorem rword_any (s : ByteArray) (w : World) (hs : s.size ≤ 281474976710656) : Ret Tryd.prog 36 #[.string s] w (fun v w' => v = .int .i64 (wordF (ls s)) ∧ Sep w [] w') := by
  have S0 := Sep.refl w
  refine Ret.named fun R hR => ?_
  refine Ret.of_J (N := 37) [(0, .string s)] Tryd.func36 rfl rfl (Nat.le_of_ble_eq_true (by kernel_rfl)) (by kernel_rfl) ?_
  refine J.run 9 K36_0 [(5, .bool (s.toList == (⟨#[]⟩ : ByteArray).toList)), (0, .string s)] w (by kernel_rfl) ?_
  refine J.head (.bool ((s.size : Int) == 0)) (congrArg Value.bool (beq_nil_eql _)) ?_
  refine J.run 1 K36_1 [(6, .bool ((s.size : Int) == 0)), (0, .string s)] w (by kernel_rfl) ?_
  by_cases fk1 : (s.size : Int) = 0
  · skip
    refine J.head (.bool true) (congrArg Value.bool (beq_iff_eq.2 fk1)) ?_
    refine J.run 11 K36_2 [(2, .int .i64 0)] w (by kernel_rfl) ?_
    refine J.ret Tryd.f36 [.int .i64 0] Tryd.func36 ⟨by kernel_rfl, trivial⟩ ?_
    refine hR _ _ ?_
    exact ⟨congrArg (Value.int .i64) (word_zero (by first | exact .inr rfl | exact .inl (by omega))).symm, S0.nil⟩
  · skip
    refine J.head (.bool false) (congrArg Value.bool (beq_eq_false_iff_ne.2 fk1)) ?_
    refine J.run 1 K36_3 [(7, .string s), (6, .bool false), (0, .string s)] w (by kernel_rfl) ?_
    have := byteAt_bounds s 0
    refine J.ok (OK.byte 8 9 s (0 : Int) (byteAt s 0) (by kernel_rfl) (by kernel_rfl) (by omega) (by omega) (rfl)) ?_
    refine J.callF 9 35 #[.int .u8 (byteAt s 0)] hb35 (by kernel_rfl) (rletter_any (byteAt s 0) _) ?_
    rintro _ w1 ⟨rfl, T1⟩
    have S1 : Sep w [] w1 := S0.trans T1
    clear T1
    refine J.run 3 K36_4 [(11, .bool (!(letB (byteAt s 0)))), (0, .string s)] w1 (by kernel_rfl) ?_
    rcases Bool.eq_false_or_eq_true (letB (byteAt s 0)) with fk2 | fk2
    · skip
      refine J.head (.bool false) (congrArg Value.bool (by rw [fk2]; rfl)) ?_
      refine J.run 9 K36_5 [(3, .int .i64 1), (0, .string s)] w1 (by kernel_rfl) ?_
      have L36_1 : ∀ (mm_ : Nat) (n : Int) (w2 : World), (1 ≤ n) → (n ≤ (s.size : Int)) → (∀ j, j < (n).toNat → innB (byteAt s j) = true) → Sep w [] w2 → ((s.size : Int) - n).toNat = mm_ → J Tryd.prog 36 37 R K36_5 [(3, .int .i64 n), (0, .string s)] w2 := by
        intro mm1
        induction mm1 using Nat.strongRecOn with
        | _ mm1 ih1 =>
        intro n w2 h0 h1 hq S2 hm1
        refine J.run 8 K36_6 [(16, .bool (decide (n < (s.size : Int)))), (3, .int .i64 n), (0, .string s)] w2 (by kernel_rfl) ?_
        by_cases fk3 : n < (s.size : Int)
        · skip
          refine J.head (.bool true) (congrArg Value.bool (decide_eq_true fk3)) ?_
          refine J.run 2 K36_7 [(18, .int .i64 n), (17, .string s), (16, .bool true), (3, .int .i64 n), (0, .string s)] w2 (by kernel_rfl) ?_
          have := byteAt_bounds s (n).toNat
          refine J.ok (OK.byte 19 9 s n (byteAt s (n).toNat) (by kernel_rfl) (by kernel_rfl) (by omega) (by omega) (rfl)) ?_
          refine J.callF 20 35 #[.int .u8 (byteAt s (n).toNat)] hb35 (by kernel_rfl) (rletter_any (byteAt s (n).toNat) _) ?_
          rintro _ w3 ⟨rfl, T2⟩
          have S3 : Sep w [] w3 := S2.trans T2
          clear T2 S2
          refine J.run 1 K36_8 [(21, .bool (letB (byteAt s (n).toNat))), (16, .bool true), (3, .int .i64 n), (0, .string s)] w3 (by kernel_rfl) ?_
          rcases Bool.eq_false_or_eq_true (letB (byteAt s (n).toNat)) with fk4 | fk4
          · skip
            refine J.head (.bool true) (congrArg Value.bool fk4) ?_
            refine J.run 19 K36_9 [(35, .int .i64 (IntKind.wrap .i64 (n + 1))), (0, .string s)] w3 (by kernel_rfl) ?_
            refine J.head (.int .i64 (n + 1)) (congrArg (Value.int .i64) (IntWalk.i64_in _ (by omega))) ?_
            refine J.run 4 K36_5 [(3, .int .i64 (n + 1)), (0, .string s)] w3 (by kernel_rfl) ?_
            refine J.run 0 K36_5 [(3, .int .i64 (n + 1)), (0, .string s)] w3 (by kernel_rfl) ?_
            exact ih1 _ (show ((s.size : Int) - (n + 1)).toNat < mm1 from by omega) (n + 1) w3 (by omega) (by omega) (dg_step (q := fun j => innB (byteAt s j) = true) (by omega) hq (by rw [innB_eq]; first | (rw [fk4]; rfl) | (rw [rfl, Bool.or_true]; rfl) | (rw [decide_eq_true (by omega)]; first | (rw [Bool.or_true]; done) | (rw [fk4, rfl]; rfl)))) S3 rfl
          · skip
            refine J.head (.bool false) (congrArg Value.bool fk4) ?_
            refine J.run 2 K36_10 [(23, .int .i64 n), (22, .string s), (21, .bool false), (16, .bool true), (3, .int .i64 n), (0, .string s)] w3 (by kernel_rfl) ?_
            have := byteAt_bounds s (n).toNat
            refine J.ok (OK.byte 24 9 s n (byteAt s (n).toNat) (by kernel_rfl) (by kernel_rfl) (by omega) (by omega) (rfl)) ?_
            refine J.callF 25 37 #[.int .u8 (byteAt s (n).toNat)] hb37 (by kernel_rfl) (rdigit_any (byteAt s (n).toNat) _) ?_
            rintro _ w4 ⟨rfl, T3⟩
            have S4 : Sep w [] w4 := S3.trans T3
            clear T3 S3
            refine J.run 2 K36_11 [(27, .bool (digB (byteAt s (n).toNat))), (16, .bool true), (3, .int .i64 n), (0, .string s)] w4 (by kernel_rfl) ?_
            rcases Bool.eq_false_or_eq_true (digB (byteAt s (n).toNat)) with fk5 | fk5
            · skip
              refine J.head (.bool true) (congrArg Value.bool fk5) ?_
              refine J.run 13 K36_12 [(35, .int .i64 (IntKind.wrap .i64 (n + 1))), (0, .string s)] w4 (by kernel_rfl) ?_
              refine J.head (.int .i64 (n + 1)) (congrArg (Value.int .i64) (IntWalk.i64_in _ (by omega))) ?_
              refine J.run 4 K36_5 [(3, .int .i64 (n + 1)), (0, .string s)] w4 (by kernel_rfl) ?_
              refine J.run 0 K36_5 [(3, .int .i64 (n + 1)), (0, .string s)] w4 (by kernel_rfl) ?_
              exact ih1 _ (show ((s.size : Int) - (n + 1)).toNat < mm1 from by omega) (n + 1) w4 (by omega) (by omega) (dg_step (q := fun j => innB (byteAt s j) = true) (by omega) hq (by rw [innB_eq]; first | (rw [fk4]; rfl) | (rw [fk5, Bool.or_true]; rfl) | (rw [decide_eq_true (by omega)]; first | (rw [Bool.or_true]; done) | (rw [fk4, fk5]; rfl)))) S4 rfl
            · skip
              refine J.head (.bool false) (congrArg Value.bool fk5) ?_
              refine J.run 2 K36_13 [(29, .int .i64 n), (28, .string s), (27, .bool false), (16, .bool true), (3, .int .i64 n), (0, .string s)] w4 (by kernel_rfl) ?_
              have := byteAt_bounds s (n).toNat
              refine J.ok (OK.byte 30 9 s n (byteAt s (n).toNat) (by kernel_rfl) (by kernel_rfl) (by omega) (by omega) (rfl)) ?_
              refine J.run 4 K36_14 [(33, .bool ((byteAt s (n).toNat) == 95)), (3, .int .i64 n), (0, .string s)] w4 (by kernel_rfl) ?_
              by_cases fk6 : (byteAt s (n).toNat) = 95
              · skip
                refine J.head (.bool true) (congrArg Value.bool (beq_iff_eq.2 fk6)) ?_
                refine J.run 6 K36_15 [(35, .int .i64 (IntKind.wrap .i64 (n + 1))), (0, .string s)] w4 (by kernel_rfl) ?_
                refine J.head (.int .i64 (n + 1)) (congrArg (Value.int .i64) (IntWalk.i64_in _ (by omega))) ?_
                refine J.run 4 K36_5 [(3, .int .i64 (n + 1)), (0, .string s)] w4 (by kernel_rfl) ?_
                refine J.run 0 K36_5 [(3, .int .i64 (n + 1)), (0, .string s)] w4 (by kernel_rfl) ?_
                exact ih1 _ (show ((s.size : Int) - (n + 1)).toNat < mm1 from by omega) (n + 1) w4 (by omega) (by omega) (dg_step (q := fun j => innB (byteAt s j) = true) (by omega) hq (by rw [innB_eq]; first | (rw [fk4]; rfl) | (rw [fk5, Bool.or_true]; rfl) | (rw [decide_eq_true (by omega)]; first | (rw [Bool.or_true]; done) | (rw [fk4, fk5]; rfl)))) S4 rfl
              · skip
                refine J.head (.bool false) (congrArg Value.bool (beq_eq_false_iff_ne.2 fk6)) ?_
                refine J.run 7 K36_16 [(2, .int .i64 n)] w4 (by kernel_rfl) ?_
                refine J.ret Tryd.f36 [.int .i64 n] Tryd.func36 ⟨by kernel_rfl, trivial⟩ ?_
                refine hR _ _ ?_
                exact ⟨congrArg (Value.int .i64) ((word_some (by omega) fk2).trans (run_all (by omega) (by omega) hq (fun h_ => by first | exact absurd h_ (by omega) | (rw [innB_eq]; first | (rw [fk4]; rfl) | (rw [fk5, Bool.or_true]; rfl) | (rw [decide_eq_false (by omega)]; first | (rw [Bool.or_true]; done) | (rw [fk4, fk5]; rfl)))))).symm, S4.nil⟩
        · skip
          refine J.head (.bool false) (congrArg Value.bool (decide_eq_false fk3)) ?_
          refine J.run 25 K36_17 [(2, .int .i64 n)] w2 (by kernel_rfl) ?_
          refine J.ret Tryd.f36 [.int .i64 n] Tryd.func36 ⟨by kernel_rfl, trivial⟩ ?_
          refine hR _ _ ?_
          exact ⟨congrArg (Value.int .i64) ((word_some (by omega) fk2).trans (run_all (by omega) (by omega) hq (fun h_ => by first | exact absurd h_ (by omega) | (rw [innB_eq]; first | (rw [rfl]; rfl) | (rw [rfl, Bool.or_true]; rfl) | (rw [decide_eq_false (by omega)]; first | (rw [Bool.or_true]; done) | (rw [rfl, rfl]; rfl)))))).symm, S2.nil⟩
      exact L36_1 _ 1 w1 (by omega) (by omega) (by intro j hj; rw [show j = 0 by simp at hj; omega]; exact innB_let fk2) S1 rfl
    · skip
      refine J.head (.bool true) (congrArg Value.bool (by rw [fk2]; rfl)) ?_
      refine J.run 5 K36_18 [(2, .int .i64 0)] w1 (by kernel_rfl) ?_
      refine J.ret Tryd.f36 [.int .i64 0] Tryd.func36 ⟨by kernel_rfl, trivial⟩ ?_
      refine hR _ _ ?_
      exact ⟨congrArg (Value.int .i64) (word_zero (by first | exact .inr fk2 | exact .inl (by omega))).symm, S1.nil⟩

theorem hb38 : HasBody Tryd.prog 38 := fun _ _ => by kernel_rfl
noncomputable def K38_0 : List Item := adv 13 [] (bodyOf Tryd.f38)
noncomputable def K38_1 : List Item := adv 1 [] K38_0
noncomputable def K38_2 : List Item := adv 5 [] K38_1
noncomputable def K38_3 : List Item := List.drop 1 K38_2
noncomputable def K38_4 : List Item := adv 8 [] K38_3
noncomputable def K38_5 : List Item := adv 8 [] K38_4
noncomputable def K38_6 : List Item := adv 2 [] K38_5
noncomputable def K38_7 : List Item := adv 2 [] (popK (popK K38_6))
noncomputable def K38_8 : List Item := adv 6 [true] K38_7
noncomputable def K38_9 : List Item := adv 9 [false] K38_7
noncomputable def K38_10 : List Item := adv 5 [true] K38_9
noncomputable def K38_11 : List Item := adv 7 [false] K38_9
noncomputable def K38_12 : List Item := adv 15 [false] K38_5
noncomputable def K38_13 : List Item := adv 5 [true] K38_12
noncomputable def K38_14 : List Item := adv 7 [false] K38_12
noncomputable def K38_15 : List Item := adv 1 [] K38_1
noncomputable def K38_16 : List Item := adv 3 [] (popK K38_15)
noncomputable def K38_17 : List Item := List.drop 1 K38_16
noncomputable def K38_18 : List Item := adv 8 [] K38_17
noncomputable def K38_19 : List Item := adv 8 [] K38_18
noncomputable def K38_20 : List Item := adv 2 [] K38_19
noncomputable def K38_21 : List Item := adv 2 [] (popK (popK K38_20))
noncomputable def K38_22 : List Item := adv 6 [true] K38_21
noncomputable def K38_23 : List Item := adv 9 [false] K38_21
noncomputable def K38_24 : List Item := adv 5 [true] K38_23
noncomputable def K38_25 : List Item := adv 7 [false] K38_23
noncomputable def K38_26 : List Item := adv 15 [false] K38_19
noncomputable def K38_27 : List Item := adv 5 [true] K38_26
noncomputable def K38_28 : List Item := adv 7 [false] K38_26
set_option maxRecDepth 20000 in
set_option maxHeartbeats 20000000 in
theorem rdigits_any (s : ByteArray) (w : World) (hs : s.size ≤ 281474976710656) : Ret Tryd.prog 38 #[.string s] w (fun v w' => v = .int .i64 (digitsF (ls s)) ∧ Sep w [] w') := by
  have S0 := Sep.refl w
  refine Ret.named fun R hR => ?_
  refine Ret.of_J (N := 29) [(0, .string s)] Tryd.func38 rfl rfl (Nat.le_of_ble_eq_true (by kernel_rfl)) (by kernel_rfl) ?_
  refine J.run 13 K38_0 [(6, .bool (!(s.toList == (⟨#[]⟩ : ByteArray).toList))), (3, .int .i64 0), (0, .string s)] w (by kernel_rfl) ?_
  refine J.head (.bool ((s.size : Int) != 0)) (congrArg Value.bool (beq_nil_neq _)) ?_
  refine J.run 1 K38_1 [(7, .bool ((s.size : Int) != 0)), (3, .int .i64 0), (0, .string s)] w (by kernel_rfl) ?_
  by_cases fk1 : (s.size : Int) = 0
  · skip
    refine J.head (.bool false) (congrArg Value.bool (bne_eq_false_iff_eq.2 fk1)) ?_
    refine J.run 5 K38_2 [(11, .bool false), (3, .int .i64 0), (0, .string s)] w (by kernel_rfl) ?_
    have X1 : ∀ (f : Int) (w1 : World), (f = 0 ∨ (f = 1 ∧ s.size ≠ 0 ∧ byteAt s 0 = 45)) → (f = 0 → s.size = 0 ∨ byteAt s 0 ≠ 45) → Sep w [] w1 → J Tryd.prog 38 29 R K38_3 [(0, .string s), (3, .int .i64 f)] w1 := by
      intro f w1 hf hf2 S1
      refine J.run 8 K38_4 [(4, .int .i64 f), (0, .string s), (3, .int .i64 f)] w1 (by kernel_rfl) ?_
      have L38_1 : ∀ (mm_ : Nat) (n : Int) (w2 : World), (f ≤ n) → (n ≤ (s.size : Int)) → (∀ j, f.toNat ≤ j → j < (n).toNat → digB (byteAt s j) = true) → Sep w [] w2 → ((s.size : Int) - n).toNat = mm_ → J Tryd.prog 38 29 R K38_4 [(4, .int .i64 f), (0, .string s), (3, .int .i64 n)] w2 := by
        intro mm1
        induction mm1 using Nat.strongRecOn with
        | _ mm1 ih1 =>
        intro n w2 h0 h1 hq S2 hm1
        refine J.run 8 K38_5 [(17, .bool (decide (n < (s.size : Int)))), (4, .int .i64 f), (0, .string s), (3, .int .i64 n)] w2 (by kernel_rfl) ?_
        by_cases fk2 : n < (s.size : Int)
        · skip
          refine J.head (.bool true) (congrArg Value.bool (decide_eq_true fk2)) ?_
          refine J.run 2 K38_6 [(19, .int .i64 n), (18, .string s), (17, .bool true), (4, .int .i64 f), (0, .string s), (3, .int .i64 n)] w2 (by kernel_rfl) ?_
          have := byteAt_bounds s (n).toNat
          refine J.ok (OK.byte 20 9 s n (byteAt s (n).toNat) (by kernel_rfl) (by kernel_rfl) (by omega) (by omega) (rfl)) ?_
          refine J.callF 21 37 #[.int .u8 (byteAt s (n).toNat)] hb37 (by kernel_rfl) (rdigit_any (byteAt s (n).toNat) _) ?_
          rintro _ w3 ⟨rfl, T1⟩
          have S3 : Sep w [] w3 := S2.trans T1
          clear T1 S2
          refine J.run 2 K38_7 [(22, .bool (digB (byteAt s (n).toNat))), (4, .int .i64 f), (0, .string s), (3, .int .i64 n)] w3 (by kernel_rfl) ?_
          rcases Bool.eq_false_or_eq_true (digB (byteAt s (n).toNat)) with fk3 | fk3
          · skip
            refine J.head (.bool true) (congrArg Value.bool fk3) ?_
            refine J.run 6 K38_8 [(24, .int .i64 (IntKind.wrap .i64 (n + 1))), (4, .int .i64 f), (0, .string s)] w3 (by kernel_rfl) ?_
            refine J.head (.int .i64 (n + 1)) (congrArg (Value.int .i64) (IntWalk.i64_in _ (by omega))) ?_
            refine J.run 4 K38_4 [(3, .int .i64 (n + 1)), (4, .int .i64 f), (0, .string s)] w3 (by kernel_rfl) ?_
            refine J.run 0 K38_4 [(4, .int .i64 f), (0, .string s), (3, .int .i64 (n + 1))] w3 (by kernel_rfl) ?_
            exact ih1 _ (show ((s.size : Int) - (n + 1)).toNat < mm1 from by omega) (n + 1) w3 (by omega) (by omega) (by intro j g1 g2; by_cases e_ : j = n.toNat; (subst e_; exact fk3); exact hq j g1 (by omega)) S3 rfl
          · skip
            refine J.head (.bool false) (congrArg Value.bool fk3) ?_
            refine J.run 9 K38_9 [(27, .bool (n == f)), (3, .int .i64 n)] w3 (by kernel_rfl) ?_
            by_cases fk4 : n = f
            · skip
              refine J.head (.bool true) (congrArg Value.bool (beq_iff_eq.2 fk4)) ?_
              refine J.run 5 K38_10 [(2, .int .i64 0)] w3 (by kernel_rfl) ?_
              refine J.ret Tryd.f38 [.int .i64 0] Tryd.func38 ⟨by kernel_rfl, trivial⟩ ?_
              refine hR _ _ ?_
              have e_ := digits_walk (s := s) (f := f) (k := n) (by omega) hf2 (by omega) (by omega) hq (fun h_ => by first | exact absurd h_ (by omega) | exact fk3)
              exact ⟨congrArg (Value.int .i64) (by rw [e_]; rw [if_pos (by omega)]), S3.nil⟩
            · skip
              refine J.head (.bool false) (congrArg Value.bool (beq_eq_false_iff_ne.2 fk4)) ?_
              refine J.run 7 K38_11 [(2, .int .i64 n)] w3 (by kernel_rfl) ?_
              refine J.ret Tryd.f38 [.int .i64 n] Tryd.func38 ⟨by kernel_rfl, trivial⟩ ?_
              refine hR _ _ ?_
              have e_ := digits_walk (s := s) (f := f) (k := n) (by omega) hf2 (by omega) (by omega) hq (fun h_ => by first | exact absurd h_ (by omega) | exact fk3)
              exact ⟨congrArg (Value.int .i64) (by rw [e_]; rw [if_neg (by omega)]), S3.nil⟩
        · skip
          refine J.head (.bool false) (congrArg Value.bool (decide_eq_false fk2)) ?_
          refine J.run 15 K38_12 [(27, .bool (n == f)), (3, .int .i64 n)] w2 (by kernel_rfl) ?_
          by_cases fk5 : n = f
          · skip
            refine J.head (.bool true) (congrArg Value.bool (beq_iff_eq.2 fk5)) ?_
            refine J.run 5 K38_13 [(2, .int .i64 0)] w2 (by kernel_rfl) ?_
            refine J.ret Tryd.f38 [.int .i64 0] Tryd.func38 ⟨by kernel_rfl, trivial⟩ ?_
            refine hR _ _ ?_
            have e_ := digits_walk (s := s) (f := f) (k := n) (by omega) hf2 (by omega) (by omega) hq (fun h_ => by first | exact absurd h_ (by omega) | exact absurd h_ (by omega))
            exact ⟨congrArg (Value.int .i64) (by rw [e_]; rw [if_pos (by omega)]), S2.nil⟩
          · skip
            refine J.head (.bool false) (congrArg Value.bool (beq_eq_false_iff_ne.2 fk5)) ?_
            refine J.run 7 K38_14 [(2, .int .i64 n)] w2 (by kernel_rfl) ?_
            refine J.ret Tryd.f38 [.int .i64 n] Tryd.func38 ⟨by kernel_rfl, trivial⟩ ?_
            refine hR _ _ ?_
            have e_ := digits_walk (s := s) (f := f) (k := n) (by omega) hf2 (by omega) (by omega) hq (fun h_ => by first | exact absurd h_ (by omega) | exact absurd h_ (by omega))
            exact ⟨congrArg (Value.int .i64) (by rw [e_]; rw [if_neg (by omega)]), S2.nil⟩
      exact L38_1 _ f w1 (by omega) (by omega) (by intro j h1 h2; omega) S1 rfl
    refine J.run 2 K38_3 [(0, .string s), (3, .int .i64 0)] w (by kernel_rfl) ?_
    exact X1 0 w (by omega) (by omega) S0
  · skip
    refine J.head (.bool true) (congrArg Value.bool (bne_iff_ne.2 fk1)) ?_
    refine J.run 1 K38_15 [(8, .string s), (7, .bool true), (3, .int .i64 0), (0, .string s)] w (by kernel_rfl) ?_
    have := byteAt_bounds s 0
    refine J.ok (OK.byte 9 9 s (0 : Int) (byteAt s 0) (by kernel_rfl) (by kernel_rfl) (by omega) (by omega) (rfl)) ?_
    refine J.run 3 K38_16 [(11, .bool ((byteAt s 0) == 45)), (3, .int .i64 0), (0, .string s)] w (by kernel_rfl) ?_
    have X2 : ∀ (f : Int) (w4 : World), (f = 0 ∨ (f = 1 ∧ s.size ≠ 0 ∧ byteAt s 0 = 45)) → (f = 0 → s.size = 0 ∨ byteAt s 0 ≠ 45) → Sep w [] w4 → J Tryd.prog 38 29 R K38_17 [(0, .string s), (3, .int .i64 f)] w4 := by
      intro f w4 hf hf2 S4
      refine J.run 8 K38_18 [(4, .int .i64 f), (0, .string s), (3, .int .i64 f)] w4 (by kernel_rfl) ?_
      have L38_2 : ∀ (mm_ : Nat) (n : Int) (w5 : World), (f ≤ n) → (n ≤ (s.size : Int)) → (∀ j, f.toNat ≤ j → j < (n).toNat → digB (byteAt s j) = true) → Sep w [] w5 → ((s.size : Int) - n).toNat = mm_ → J Tryd.prog 38 29 R K38_18 [(4, .int .i64 f), (0, .string s), (3, .int .i64 n)] w5 := by
        intro mm2
        induction mm2 using Nat.strongRecOn with
        | _ mm2 ih2 =>
        intro n w5 h0 h1 hq S5 hm2
        refine J.run 8 K38_19 [(17, .bool (decide (n < (s.size : Int)))), (4, .int .i64 f), (0, .string s), (3, .int .i64 n)] w5 (by kernel_rfl) ?_
        by_cases fk6 : n < (s.size : Int)
        · skip
          refine J.head (.bool true) (congrArg Value.bool (decide_eq_true fk6)) ?_
          refine J.run 2 K38_20 [(19, .int .i64 n), (18, .string s), (17, .bool true), (4, .int .i64 f), (0, .string s), (3, .int .i64 n)] w5 (by kernel_rfl) ?_
          have := byteAt_bounds s (n).toNat
          refine J.ok (OK.byte 20 9 s n (byteAt s (n).toNat) (by kernel_rfl) (by kernel_rfl) (by omega) (by omega) (rfl)) ?_
          refine J.callF 21 37 #[.int .u8 (byteAt s (n).toNat)] hb37 (by kernel_rfl) (rdigit_any (byteAt s (n).toNat) _) ?_
          rintro _ w6 ⟨rfl, T2⟩
          have S6 : Sep w [] w6 := S5.trans T2
          clear T2 S5
          refine J.run 2 K38_21 [(22, .bool (digB (byteAt s (n).toNat))), (4, .int .i64 f), (0, .string s), (3, .int .i64 n)] w6 (by kernel_rfl) ?_
          rcases Bool.eq_false_or_eq_true (digB (byteAt s (n).toNat)) with fk7 | fk7
          · skip
            refine J.head (.bool true) (congrArg Value.bool fk7) ?_
            refine J.run 6 K38_22 [(24, .int .i64 (IntKind.wrap .i64 (n + 1))), (4, .int .i64 f), (0, .string s)] w6 (by kernel_rfl) ?_
            refine J.head (.int .i64 (n + 1)) (congrArg (Value.int .i64) (IntWalk.i64_in _ (by omega))) ?_
            refine J.run 4 K38_18 [(3, .int .i64 (n + 1)), (4, .int .i64 f), (0, .string s)] w6 (by kernel_rfl) ?_
            refine J.run 0 K38_18 [(4, .int .i64 f), (0, .string s), (3, .int .i64 (n + 1))] w6 (by kernel_rfl) ?_
            exact ih2 _ (show ((s.size : Int) - (n + 1)).toNat < mm2 from by omega) (n + 1) w6 (by omega) (by omega) (by intro j g1 g2; by_cases e_ : j = n.toNat; (subst e_; exact fk7); exact hq j g1 (by omega)) S6 rfl
          · skip
            refine J.head (.bool false) (congrArg Value.bool fk7) ?_
            refine J.run 9 K38_23 [(27, .bool (n == f)), (3, .int .i64 n)] w6 (by kernel_rfl) ?_
            by_cases fk8 : n = f
            · skip
              refine J.head (.bool true) (congrArg Value.bool (beq_iff_eq.2 fk8)) ?_
              refine J.run 5 K38_24 [(2, .int .i64 0)] w6 (by kernel_rfl) ?_
              refine J.ret Tryd.f38 [.int .i64 0] Tryd.func38 ⟨by kernel_rfl, trivial⟩ ?_
              refine hR _ _ ?_
              have e_ := digits_walk (s := s) (f := f) (k := n) (by omega) hf2 (by omega) (by omega) hq (fun h_ => by first | exact absurd h_ (by omega) | exact fk7)
              exact ⟨congrArg (Value.int .i64) (by rw [e_]; rw [if_pos (by omega)]), S6.nil⟩
            · skip
              refine J.head (.bool false) (congrArg Value.bool (beq_eq_false_iff_ne.2 fk8)) ?_
              refine J.run 7 K38_25 [(2, .int .i64 n)] w6 (by kernel_rfl) ?_
              refine J.ret Tryd.f38 [.int .i64 n] Tryd.func38 ⟨by kernel_rfl, trivial⟩ ?_
              refine hR _ _ ?_
              have e_ := digits_walk (s := s) (f := f) (k := n) (by omega) hf2 (by omega) (by omega) hq (fun h_ => by first | exact absurd h_ (by omega) | exact fk7)
              exact ⟨congrArg (Value.int .i64) (by rw [e_]; rw [if_neg (by omega)]), S6.nil⟩
        · skip
          refine J.head (.bool false) (congrArg Value.bool (decide_eq_false fk6)) ?_
          refine J.run 15 K38_26 [(27, .bool (n == f)), (3, .int .i64 n)] w5 (by kernel_rfl) ?_
          by_cases fk9 : n = f
          · skip
            refine J.head (.bool true) (congrArg Value.bool (beq_iff_eq.2 fk9)) ?_
            refine J.run 5 K38_27 [(2, .int .i64 0)] w5 (by kernel_rfl) ?_
            refine J.ret Tryd.f38 [.int .i64 0] Tryd.func38 ⟨by kernel_rfl, trivial⟩ ?_
            refine hR _ _ ?_
            have e_ := digits_walk (s := s) (f := f) (k := n) (by omega) hf2 (by omega) (by omega) hq (fun h_ => by first | exact absurd h_ (by omega) | exact absurd h_ (by omega))
            exact ⟨congrArg (Value.int .i64) (by rw [e_]; rw [if_pos (by omega)]), S5.nil⟩
          · skip
            refine J.head (.bool false) (congrArg Value.bool (beq_eq_false_iff_ne.2 fk9)) ?_
            refine J.run 7 K38_28 [(2, .int .i64 n)] w5 (by kernel_rfl) ?_
            refine J.ret Tryd.f38 [.int .i64 n] Tryd.func38 ⟨by kernel_rfl, trivial⟩ ?_
            refine hR _ _ ?_
            have e_ := digits_walk (s := s) (f := f) (k := n) (by omega) hf2 (by omega) (by omega) hq (fun h_ => by first | exact absurd h_ (by omega) | exact absurd h_ (by omega))
            exact ⟨congrArg (Value.int .i64) (by rw [e_]; rw [if_neg (by omega)]), S5.nil⟩
      exact L38_2 _ f w4 (by omega) (by omega) (by intro j h1 h2; omega) S4 rfl
    by_cases fk10 : (byteAt s 0) = 45
    · skip
      refine J.head (.bool true) (congrArg Value.bool (beq_iff_eq.2 fk10)) ?_
      refine J.run 4 K38_17 [(0, .string s), (3, .int .i64 1)] w (by kernel_rfl) ?_
      exact X2 1 w (by omega) (by omega) S0
    · skip
      refine J.head (.bool false) (congrArg Value.bool (beq_eq_false_iff_ne.2 fk10)) ?_
      refine J.run 2 K38_17 [(0, .string s), (3, .int .i64 0)] w (by kernel_rfl) ?_
      exact X2 0 w (by omega) (by omega) S0

theorem hb39 : HasBody Tryd.prog 39 := fun _ _ => by kernel_rfl
noncomputable def K39_0 : List Item := adv 9 [] (bodyOf Tryd.f39)
noncomputable def K39_1 : List Item := adv 1 [] K39_0
noncomputable def K39_2 : List Item := adv 21 [false] K39_1
noncomputable def K39_3 : List Item := adv 2 [] (popK K39_2)
noncomputable def K39_4 : List Item := List.drop 1 K39_3
noncomputable def K39_5 : List Item := adv 4 [] K39_4
noncomputable def K39_6 : List Item := adv 2 [] (popK K39_5)
noncomputable def K39_7 : List Item := adv 5 [] K39_6
noncomputable def K39_8 : List Item := adv 5 [true] K39_7
noncomputable def K39_9 : List Item := adv 9 [false] K39_7
noncomputable def K39_10 : List Item := adv 5 [true] K39_9
noncomputable def K39_11 : List Item := adv 5 [false] K39_9
noncomputable def K39_12 : List Item := adv 12 [] (popK K39_11)
noncomputable def K39_13 : List Item := adv 8 [false] K39_12
noncomputable def K39_14 : List Item := adv 9 [true] K39_13
noncomputable def K39_15 : List Item := adv 4 [] K39_13
noncomputable def K39_16 : List Item := adv 5 [true] K39_15
noncomputable def K39_17 : List Item := adv 6 [false] K39_15
noncomputable def K39_18 : List Item := adv 6 [true] K39_12
noncomputable def K39_19 : List Item := adv 14 [false] K39_6
noncomputable def K39_20 : List Item := adv 5 [true] K39_19
noncomputable def K39_21 : List Item := adv 5 [false] K39_19
noncomputable def K39_22 : List Item := adv 12 [] (popK K39_21)
noncomputable def K39_23 : List Item := adv 8 [false] K39_22
noncomputable def K39_24 : List Item := adv 9 [true] K39_23
noncomputable def K39_25 : List Item := adv 4 [] K39_23
noncomputable def K39_26 : List Item := adv 5 [true] K39_25
noncomputable def K39_27 : List Item := adv 6 [false] K39_25
noncomputable def K39_28 : List Item := adv 6 [true] K39_22
noncomputable def K39_29 : List Item := adv 3 [true] K39_3
noncomputable def K39_30 : List Item := adv 1 [] K39_1
noncomputable def K39_31 : List Item := adv 1 [] (popK (popK K39_30))
noncomputable def K39_32 : List Item := adv 11 [true] K39_31
noncomputable def K39_33 : List Item := adv 1 [] K39_31
noncomputable def K39_34 : List Item := adv 4 [] (popK K39_33)
noncomputable def K39_35 : List Item := adv 5 [true] K39_34
noncomputable def K39_36 : List Item := adv 11 [false] K39_34
noncomputable def K39_37 : List Item := adv 2 [] (popK K39_36)
noncomputable def K39_38 : List Item := List.drop 1 K39_37
noncomputable def K39_39 : List Item := adv 4 [] K39_38
noncomputable def K39_40 : List Item := adv 2 [] (popK K39_39)
noncomputable def K39_41 : List Item := adv 5 [] K39_40
noncomputable def K39_42 : List Item := adv 5 [true] K39_41
noncomputable def K39_43 : List Item := adv 9 [false] K39_41
noncomputable def K39_44 : List Item := adv 5 [true] K39_43
noncomputable def K39_45 : List Item := adv 5 [false] K39_43
noncomputable def K39_46 : List Item := adv 12 [] (popK K39_45)
noncomputable def K39_47 : List Item := adv 8 [false] K39_46
noncomputable def K39_48 : List Item := adv 9 [true] K39_47
noncomputable def K39_49 : List Item := adv 4 [] K39_47
noncomputable def K39_50 : List Item := adv 5 [true] K39_49
noncomputable def K39_51 : List Item := adv 6 [false] K39_49
noncomputable def K39_52 : List Item := adv 6 [true] K39_46
noncomputable def K39_53 : List Item := adv 14 [false] K39_40
noncomputable def K39_54 : List Item := adv 5 [true] K39_53
noncomputable def K39_55 : List Item := adv 5 [false] K39_53
noncomputable def K39_56 : List Item := adv 12 [] (popK K39_55)
noncomputable def K39_57 : List Item := adv 8 [false] K39_56
noncomputable def K39_58 : List Item := adv 9 [true] K39_57
noncomputable def K39_59 : List Item := adv 4 [] K39_57
noncomputable def K39_60 : List Item := adv 5 [true] K39_59
noncomputable def K39_61 : List Item := adv 6 [false] K39_59
noncomputable def K39_62 : List Item := adv 6 [true] K39_56
noncomputable def K39_63 : List Item := adv 3 [true] K39_37
set_option maxRecDepth 20000 in
set_option maxHeartbeats 20000000 in
theorem rnumber_any (t nx : ByteArray) (w : World) (hs : t.size ≤ 281474976710656) (hne : digL (ls t) ≠ []) (hdg : (digL (ls t)).all isDig = true) : Ret Tryd.prog 39 #[.string t, .string nx] w (fun v w' => v = .int .i64 (numE t (ls nx)) ∧ Sep w [] w') := by
  have S0 := Sep.refl w
  refine Ret.named fun R hR => ?_
  refine Ret.of_J (N := 51) [(0, .string t), (1, .string nx)] Tryd.func39 rfl rfl (Nat.le_of_ble_eq_true (by kernel_rfl)) (by kernel_rfl) ?_
  have hnx := next_zero nx
  have htp : 1 ≤ t.size := by have h_ := ls_length t; have h2_ := (digL_len (ls t)).1; have h3_ := List.length_pos_iff.2 hne; omega
  refine J.run 9 K39_0 [(9, .bool (!(nx.toList == (⟨#[]⟩ : ByteArray).toList))), (0, .string t), (1, .string nx)] w (by kernel_rfl) ?_
  refine J.head (.bool ((nx.size : Int) != 0)) (congrArg Value.bool (beq_nil_neq _)) ?_
  refine J.run 1 K39_1 [(10, .bool ((nx.size : Int) != 0)), (0, .string t), (1, .string nx)] w (by kernel_rfl) ?_
  by_cases fk1 : (nx.size : Int) = 0
  · skip
    refine J.head (.bool false) (congrArg Value.bool (bne_eq_false_iff_eq.2 fk1)) ?_
    refine J.run 21 K39_2 [(21, .string t), (5, .string t), (0, .string t)] w (by kernel_rfl) ?_
    have := byteAt_bounds t 0
    refine J.ok (OK.byte 22 9 t (0 : Int) (byteAt t 0) (by kernel_rfl) (by kernel_rfl) (by omega) (by omega) (rfl)) ?_
    refine J.run 2 K39_3 [(23, .bool ((byteAt t 0) == 45)), (5, .string t), (0, .string t)] w (by kernel_rfl) ?_
    have X1 : ∀ (d : ByteArray) (w1 : World), (ls d = digL (ls t)) → (negL (ls t) = false → (d).size = t.size) → (negL (ls t) = true → t.size = (d).size + 1) → Sep w [] w1 → J Tryd.prog 39 51 R K39_4 [(0, .string t), (5, .string d)] w1 := by
      intro d w1 hd hng hng2 S1
      have hdl := ls_length d
      have hdz : 1 ≤ d.size := by have h3_ := List.length_pos_iff.2 hne; rw [← hd] at h3_; omega
      have hns : t.size = d.size ∨ t.size = d.size + 1 := by cases hn_ : negL (ls t); (have := hng hn_; omega); (have := hng2 hn_; omega)
      refine J.run 4 K39_5 [(26, .string d), (0, .string t)] w1 (by kernel_rfl) ?_
      have := byteAt_bounds d 0
      refine J.ok (OK.byte 27 9 d (0 : Int) (byteAt d 0) (by kernel_rfl) (by kernel_rfl) (by omega) (by omega) (rfl)) ?_
      refine J.run 2 K39_6 [(29, .bool ((byteAt d 0) == 48)), (0, .string t)] w1 (by kernel_rfl) ?_
      by_cases fk2 : (byteAt d 0) = 48
      · skip
        refine J.head (.bool true) (congrArg Value.bool (beq_iff_eq.2 fk2)) ?_
        refine J.run 5 K39_7 [(33, .bool (decide ((t.size : Int) > 1))), (0, .string t)] w1 (by kernel_rfl) ?_
        by_cases fk3 : (t.size : Int) > 1
        · skip
          refine J.head (.bool true) (congrArg Value.bool (decide_eq_true fk3)) ?_
          refine J.run 5 K39_8 [(4, .int .i64 3)] w1 (by kernel_rfl) ?_
          refine J.ret Tryd.f39 [.int .i64 3] Tryd.func39 ⟨by kernel_rfl, trivial⟩ ?_
          refine hR _ _ ?_
          have hcan := can_eq (s := t) (d := d) hd
          have hnx0 : nextB (ls nx) = false := by rw [hnx]; first | (rw [decide_eq_false (by omega)]; rfl) | (rw [rfl, Bool.false_or, decide_eq_false (show ¬ byteAt nx 0 = 95 by omega), Bool.and_false])
          exact ⟨congrArg (Value.int .i64) (numE_bad (.inr (can_no hd (by omega) (by omega) hng))).symm, S1.nil⟩
        · skip
          refine J.head (.bool false) (congrArg Value.bool (decide_eq_false fk3)) ?_
          refine J.run 9 K39_9 [(36, .bool (decide ((t.size : Int) > 20))), (0, .string t)] w1 (by kernel_rfl) ?_
          by_cases fk4 : (t.size : Int) > 20
          · skip
            refine J.head (.bool true) (congrArg Value.bool (decide_eq_true fk4)) ?_
            refine J.run 5 K39_10 [(4, .int .i64 9)] w1 (by kernel_rfl) ?_
            refine J.ret Tryd.f39 [.int .i64 9] Tryd.func39 ⟨by kernel_rfl, trivial⟩ ?_
            refine hR _ _ ?_
            have hcan := can_eq (s := t) (d := d) hd
            have hnx0 : nextB (ls nx) = false := by rw [hnx]; first | (rw [decide_eq_false (by omega)]; rfl) | (rw [rfl, Bool.false_or, decide_eq_false (show ¬ byteAt nx 0 = 95 by omega), Bool.and_false])
            have hc1 : canL (ls t) = true := by rw [hcan, decide_eq_false (show ¬ d.size = 0 by omega)]; first | (rw [decide_eq_false (show ¬ byteAt d 0 = 48 by omega)]; rfl) | (cases hn_ : negL (ls t); (rw [decide_eq_true (show d.size = 1 by have := hng hn_; omega)]; simp); (have := hng2 hn_; exfalso; omega))
            exact ⟨congrArg (Value.int .i64) (numE_great hnx0 hc1 (great_long hc1 hdg (by omega))).symm, S1.nil⟩
          · skip
            refine J.head (.bool false) (congrArg Value.bool (decide_eq_false fk4)) ?_
            refine J.run 5 K39_11 [(38, .string t)] w1 (by kernel_rfl) ?_
            refine J.callF 39 51 #[.string t] hb51 (by kernel_rfl) (rparse_any t _ (by omega)) ?_
            rintro _ w2 ⟨rfl, T1⟩
            have S2 : Sep w [] w2 := S1.trans T1
            clear T1 S1
            have := par_bounds t
            refine J.run 12 K39_12 [(43, .bool ((parE t) != 0)), (7, .int .i64 (parE t)), (6, .int .i64 (parX t))] w2 (by kernel_rfl) ?_
            by_cases fk5 : (parE t) = 0
            · skip
              refine J.head (.bool false) (congrArg Value.bool (bne_eq_false_iff_eq.2 fk5)) ?_
              refine J.run 8 K39_13 [(47, .bool (decide ((parX t) > 1099511627776))), (6, .int .i64 (parX t))] w2 (by kernel_rfl) ?_
              by_cases fk6 : (parX t) > 1099511627776
              · skip
                refine J.head (.bool true) (congrArg Value.bool (decide_eq_true fk6)) ?_
                refine J.run 9 K39_14 [(4, .int .i64 9)] w2 (by kernel_rfl) ?_
                refine J.ret Tryd.f39 [.int .i64 9] Tryd.func39 ⟨by kernel_rfl, trivial⟩ ?_
                refine hR _ _ ?_
                have hcan := can_eq (s := t) (d := d) hd
                have hnx0 : nextB (ls nx) = false := by rw [hnx]; first | (rw [decide_eq_false (by omega)]; rfl) | (rw [rfl, Bool.false_or, decide_eq_false (show ¬ byteAt nx 0 = 95 by omega), Bool.and_false])
                have hc1 : canL (ls t) = true := by rw [hcan, decide_eq_false (show ¬ d.size = 0 by omega)]; first | (rw [decide_eq_false (show ¬ byteAt d 0 = 48 by omega)]; rfl) | (cases hn_ : negL (ls t); (rw [decide_eq_true (show d.size = 1 by have := hng hn_; omega)]; simp); (have := hng2 hn_; exfalso; omega))
                exact ⟨congrArg (Value.int .i64) (numE_great hnx0 hc1 (by rw [great_eq, decide_eq_true (show parE t = 0 by omega)]; first | (rw [decide_eq_true (show parX t > 1099511627776 by omega)]; rfl) | (rw [decide_eq_true (show parX t < -1099511627776 by omega), Bool.or_true]; rfl))).symm, S2.nil⟩
              · skip
                refine J.head (.bool false) (congrArg Value.bool (decide_eq_false fk6)) ?_
                refine J.run 4 K39_15 [(50, .bool (decide ((parX t) < (-1099511627776))))] w2 (by kernel_rfl) ?_
                by_cases fk7 : (parX t) < (-1099511627776)
                · skip
                  refine J.head (.bool true) (congrArg Value.bool (decide_eq_true fk7)) ?_
                  refine J.run 5 K39_16 [(4, .int .i64 9)] w2 (by kernel_rfl) ?_
                  refine J.ret Tryd.f39 [.int .i64 9] Tryd.func39 ⟨by kernel_rfl, trivial⟩ ?_
                  refine hR _ _ ?_
                  have hcan := can_eq (s := t) (d := d) hd
                  have hnx0 : nextB (ls nx) = false := by rw [hnx]; first | (rw [decide_eq_false (by omega)]; rfl) | (rw [rfl, Bool.false_or, decide_eq_false (show ¬ byteAt nx 0 = 95 by omega), Bool.and_false])
                  have hc1 : canL (ls t) = true := by rw [hcan, decide_eq_false (show ¬ d.size = 0 by omega)]; first | (rw [decide_eq_false (show ¬ byteAt d 0 = 48 by omega)]; rfl) | (cases hn_ : negL (ls t); (rw [decide_eq_true (show d.size = 1 by have := hng hn_; omega)]; simp); (have := hng2 hn_; exfalso; omega))
                  exact ⟨congrArg (Value.int .i64) (numE_great hnx0 hc1 (by rw [great_eq, decide_eq_true (show parE t = 0 by omega)]; first | (rw [decide_eq_true (show parX t > 1099511627776 by omega)]; rfl) | (rw [decide_eq_true (show parX t < -1099511627776 by omega), Bool.or_true]; rfl))).symm, S2.nil⟩
                · skip
                  refine J.head (.bool false) (congrArg Value.bool (decide_eq_false fk7)) ?_
                  refine J.run 6 K39_17 [(4, .int .i64 0)] w2 (by kernel_rfl) ?_
                  refine J.ret Tryd.f39 [.int .i64 0] Tryd.func39 ⟨by kernel_rfl, trivial⟩ ?_
                  refine hR _ _ ?_
                  have hcan := can_eq (s := t) (d := d) hd
                  have hnx0 : nextB (ls nx) = false := by rw [hnx]; first | (rw [decide_eq_false (by omega)]; rfl) | (rw [rfl, Bool.false_or, decide_eq_false (show ¬ byteAt nx 0 = 95 by omega), Bool.and_false])
                  have hc1 : canL (ls t) = true := by rw [hcan, decide_eq_false (show ¬ d.size = 0 by omega)]; first | (rw [decide_eq_false (show ¬ byteAt d 0 = 48 by omega)]; rfl) | (cases hn_ : negL (ls t); (rw [decide_eq_true (show d.size = 1 by have := hng hn_; omega)]; simp); (have := hng2 hn_; exfalso; omega))
                  exact ⟨congrArg (Value.int .i64) (numE_ok hnx0 hc1 (by rw [great_eq, decide_eq_true (show parE t = 0 by omega), decide_eq_false (show ¬ parX t > 1099511627776 by omega), decide_eq_false (show ¬ parX t < -1099511627776 by omega)]; rfl)).symm, S2.nil⟩
            · skip
              refine J.head (.bool true) (congrArg Value.bool (bne_iff_ne.2 fk5)) ?_
              refine J.run 6 K39_18 [(4, .int .i64 (parE t))] w2 (by kernel_rfl) ?_
              refine J.ret Tryd.f39 [.int .i64 (parE t)] Tryd.func39 ⟨by kernel_rfl, trivial⟩ ?_
              refine hR _ _ ?_
              have hcan := can_eq (s := t) (d := d) hd
              have hnx0 : nextB (ls nx) = false := by rw [hnx]; first | (rw [decide_eq_false (by omega)]; rfl) | (rw [rfl, Bool.false_or, decide_eq_false (show ¬ byteAt nx 0 = 95 by omega), Bool.and_false])
              have hc1 : canL (ls t) = true := by rw [hcan, decide_eq_false (show ¬ d.size = 0 by omega)]; first | (rw [decide_eq_false (show ¬ byteAt d 0 = 48 by omega)]; rfl) | (cases hn_ : negL (ls t); (rw [decide_eq_true (show d.size = 1 by have := hng hn_; omega)]; simp); (have := hng2 hn_; exfalso; omega))
              have h9 := par_err hc1 hdg (by omega) (by omega)
              exact ⟨congrArg (Value.int .i64) (h9.trans (numE_great hnx0 hc1 (by rw [great_eq, decide_eq_false (show ¬ parE t = 0 by omega)]; rfl)).symm), S2.nil⟩
      · skip
        refine J.head (.bool false) (congrArg Value.bool (beq_eq_false_iff_ne.2 fk2)) ?_
        refine J.run 14 K39_19 [(36, .bool (decide ((t.size : Int) > 20))), (0, .string t)] w1 (by kernel_rfl) ?_
        by_cases fk8 : (t.size : Int) > 20
        · skip
          refine J.head (.bool true) (congrArg Value.bool (decide_eq_true fk8)) ?_
          refine J.run 5 K39_20 [(4, .int .i64 9)] w1 (by kernel_rfl) ?_
          refine J.ret Tryd.f39 [.int .i64 9] Tryd.func39 ⟨by kernel_rfl, trivial⟩ ?_
          refine hR _ _ ?_
          have hcan := can_eq (s := t) (d := d) hd
          have hnx0 : nextB (ls nx) = false := by rw [hnx]; first | (rw [decide_eq_false (by omega)]; rfl) | (rw [rfl, Bool.false_or, decide_eq_false (show ¬ byteAt nx 0 = 95 by omega), Bool.and_false])
          have hc1 : canL (ls t) = true := by rw [hcan, decide_eq_false (show ¬ d.size = 0 by omega)]; first | (rw [decide_eq_false (show ¬ byteAt d 0 = 48 by omega)]; rfl) | (cases hn_ : negL (ls t); (rw [decide_eq_true (show d.size = 1 by have := hng hn_; omega)]; simp); (have := hng2 hn_; exfalso; omega))
          exact ⟨congrArg (Value.int .i64) (numE_great hnx0 hc1 (great_long hc1 hdg (by omega))).symm, S1.nil⟩
        · skip
          refine J.head (.bool false) (congrArg Value.bool (decide_eq_false fk8)) ?_
          refine J.run 5 K39_21 [(38, .string t)] w1 (by kernel_rfl) ?_
          refine J.callF 39 51 #[.string t] hb51 (by kernel_rfl) (rparse_any t _ (by omega)) ?_
          rintro _ w3 ⟨rfl, T2⟩
          have S3 : Sep w [] w3 := S1.trans T2
          clear T2 S1
          have := par_bounds t
          refine J.run 12 K39_22 [(43, .bool ((parE t) != 0)), (7, .int .i64 (parE t)), (6, .int .i64 (parX t))] w3 (by kernel_rfl) ?_
          by_cases fk9 : (parE t) = 0
          · skip
            refine J.head (.bool false) (congrArg Value.bool (bne_eq_false_iff_eq.2 fk9)) ?_
            refine J.run 8 K39_23 [(47, .bool (decide ((parX t) > 1099511627776))), (6, .int .i64 (parX t))] w3 (by kernel_rfl) ?_
            by_cases fk10 : (parX t) > 1099511627776
            · skip
              refine J.head (.bool true) (congrArg Value.bool (decide_eq_true fk10)) ?_
              refine J.run 9 K39_24 [(4, .int .i64 9)] w3 (by kernel_rfl) ?_
              refine J.ret Tryd.f39 [.int .i64 9] Tryd.func39 ⟨by kernel_rfl, trivial⟩ ?_
              refine hR _ _ ?_
              have hcan := can_eq (s := t) (d := d) hd
              have hnx0 : nextB (ls nx) = false := by rw [hnx]; first | (rw [decide_eq_false (by omega)]; rfl) | (rw [rfl, Bool.false_or, decide_eq_false (show ¬ byteAt nx 0 = 95 by omega), Bool.and_false])
              have hc1 : canL (ls t) = true := by rw [hcan, decide_eq_false (show ¬ d.size = 0 by omega)]; first | (rw [decide_eq_false (show ¬ byteAt d 0 = 48 by omega)]; rfl) | (cases hn_ : negL (ls t); (rw [decide_eq_true (show d.size = 1 by have := hng hn_; omega)]; simp); (have := hng2 hn_; exfalso; omega))
              exact ⟨congrArg (Value.int .i64) (numE_great hnx0 hc1 (by rw [great_eq, decide_eq_true (show parE t = 0 by omega)]; first | (rw [decide_eq_true (show parX t > 1099511627776 by omega)]; rfl) | (rw [decide_eq_true (show parX t < -1099511627776 by omega), Bool.or_true]; rfl))).symm, S3.nil⟩
            · skip
              refine J.head (.bool false) (congrArg Value.bool (decide_eq_false fk10)) ?_
              refine J.run 4 K39_25 [(50, .bool (decide ((parX t) < (-1099511627776))))] w3 (by kernel_rfl) ?_
              by_cases fk11 : (parX t) < (-1099511627776)
              · skip
                refine J.head (.bool true) (congrArg Value.bool (decide_eq_true fk11)) ?_
                refine J.run 5 K39_26 [(4, .int .i64 9)] w3 (by kernel_rfl) ?_
                refine J.ret Tryd.f39 [.int .i64 9] Tryd.func39 ⟨by kernel_rfl, trivial⟩ ?_
                refine hR _ _ ?_
                have hcan := can_eq (s := t) (d := d) hd
                have hnx0 : nextB (ls nx) = false := by rw [hnx]; first | (rw [decide_eq_false (by omega)]; rfl) | (rw [rfl, Bool.false_or, decide_eq_false (show ¬ byteAt nx 0 = 95 by omega), Bool.and_false])
                have hc1 : canL (ls t) = true := by rw [hcan, decide_eq_false (show ¬ d.size = 0 by omega)]; first | (rw [decide_eq_false (show ¬ byteAt d 0 = 48 by omega)]; rfl) | (cases hn_ : negL (ls t); (rw [decide_eq_true (show d.size = 1 by have := hng hn_; omega)]; simp); (have := hng2 hn_; exfalso; omega))
                exact ⟨congrArg (Value.int .i64) (numE_great hnx0 hc1 (by rw [great_eq, decide_eq_true (show parE t = 0 by omega)]; first | (rw [decide_eq_true (show parX t > 1099511627776 by omega)]; rfl) | (rw [decide_eq_true (show parX t < -1099511627776 by omega), Bool.or_true]; rfl))).symm, S3.nil⟩
              · skip
                refine J.head (.bool false) (congrArg Value.bool (decide_eq_false fk11)) ?_
                refine J.run 6 K39_27 [(4, .int .i64 0)] w3 (by kernel_rfl) ?_
                refine J.ret Tryd.f39 [.int .i64 0] Tryd.func39 ⟨by kernel_rfl, trivial⟩ ?_
                refine hR _ _ ?_
                have hcan := can_eq (s := t) (d := d) hd
                have hnx0 : nextB (ls nx) = false := by rw [hnx]; first | (rw [decide_eq_false (by omega)]; rfl) | (rw [rfl, Bool.false_or, decide_eq_false (show ¬ byteAt nx 0 = 95 by omega), Bool.and_false])
                have hc1 : canL (ls t) = true := by rw [hcan, decide_eq_false (show ¬ d.size = 0 by omega)]; first | (rw [decide_eq_false (show ¬ byteAt d 0 = 48 by omega)]; rfl) | (cases hn_ : negL (ls t); (rw [decide_eq_true (show d.size = 1 by have := hng hn_; omega)]; simp); (have := hng2 hn_; exfalso; omega))
                exact ⟨congrArg (Value.int .i64) (numE_ok hnx0 hc1 (by rw [great_eq, decide_eq_true (show parE t = 0 by omega), decide_eq_false (show ¬ parX t > 1099511627776 by omega), decide_eq_false (show ¬ parX t < -1099511627776 by omega)]; rfl)).symm, S3.nil⟩
          · skip
            refine J.head (.bool true) (congrArg Value.bool (bne_iff_ne.2 fk9)) ?_
            refine J.run 6 K39_28 [(4, .int .i64 (parE t))] w3 (by kernel_rfl) ?_
            refine J.ret Tryd.f39 [.int .i64 (parE t)] Tryd.func39 ⟨by kernel_rfl, trivial⟩ ?_
            refine hR _ _ ?_
            have hcan := can_eq (s := t) (d := d) hd
            have hnx0 : nextB (ls nx) = false := by rw [hnx]; first | (rw [decide_eq_false (by omega)]; rfl) | (rw [rfl, Bool.false_or, decide_eq_false (show ¬ byteAt nx 0 = 95 by omega), Bool.and_false])
            have hc1 : canL (ls t) = true := by rw [hcan, decide_eq_false (show ¬ d.size = 0 by omega)]; first | (rw [decide_eq_false (show ¬ byteAt d 0 = 48 by omega)]; rfl) | (cases hn_ : negL (ls t); (rw [decide_eq_true (show d.size = 1 by have := hng hn_; omega)]; simp); (have := hng2 hn_; exfalso; omega))
            have h9 := par_err hc1 hdg (by omega) (by omega)
            exact ⟨congrArg (Value.int .i64) (h9.trans (numE_great hnx0 hc1 (by rw [great_eq, decide_eq_false (show ¬ parE t = 0 by omega)]; rfl)).symm), S3.nil⟩
    by_cases fk12 : (byteAt t 0) = 45
    · skip
      refine J.head (.bool true) (congrArg Value.bool (beq_iff_eq.2 fk12)) ?_
      refine J.run 3 K39_29 [(24, .string t), (0, .string t)] w (by kernel_rfl) ?_
      refine J.ok (OK.sliceT 25 9 t (some (.int .i64 1)) none 1 t.size (by kernel_rfl) (by kernel_rfl) (.inr ⟨_, _, rfl, rfl⟩) (.inl ⟨rfl, rfl⟩) (by first | omega | (simp; omega)) (by first | omega | (simp; omega))) ?_
      have := size_extract t (i := 1) (j := t.size) (by first | omega | (simp; omega))
      refine J.run 2 K39_4 [(0, .string t), (5, .string (t.extract 1 t.size))] w (by kernel_rfl) ?_
      exact X1 (t.extract 1 t.size) w (by first | exact (dig_minus (by omega) (by omega)).1 | exact (dig_plain (by omega)).1) (by first | (intro _; rfl) | (intro h_; rw [(dig_minus (s := t) (by omega) (by omega)).2] at h_; cases h_)) (by first | (intro h_; rw [(dig_plain (s := t) (by omega)).2] at h_; cases h_) | (intro _; rw [size_extract t (Nat.le_refl _)]; omega)) S0
    · skip
      refine J.head (.bool false) (congrArg Value.bool (beq_eq_false_iff_ne.2 fk12)) ?_
      refine J.run 2 K39_4 [(0, .string t), (5, .string t)] w (by kernel_rfl) ?_
      exact X1 t w (by first | exact (dig_minus (by omega) (by omega)).1 | exact (dig_plain (by omega)).1) (by first | (intro _; rfl) | (intro h_; rw [(dig_minus (s := t) (by omega) (by omega)).2] at h_; cases h_)) (by first | (intro h_; rw [(dig_plain (s := t) (by omega)).2] at h_; cases h_) | (intro _; rw [size_extract t (Nat.le_refl _)]; omega)) S0
  · skip
    refine J.head (.bool true) (congrArg Value.bool (bne_iff_ne.2 fk1)) ?_
    refine J.run 1 K39_30 [(11, .string nx), (10, .bool true), (0, .string t), (1, .string nx)] w (by kernel_rfl) ?_
    have := byteAt_bounds nx 0
    refine J.ok (OK.byte 12 9 nx (0 : Int) (byteAt nx 0) (by kernel_rfl) (by kernel_rfl) (by omega) (by omega) (rfl)) ?_
    refine J.callF 13 35 #[.int .u8 (byteAt nx 0)] hb35 (by kernel_rfl) (rletter_any (byteAt nx 0) _) ?_
    rintro _ w4 ⟨rfl, T3⟩
    have S4 : Sep w [] w4 := S0.trans T3
    clear T3
    refine J.run 1 K39_31 [(14, .bool (letB (byteAt nx 0))), (10, .bool true), (0, .string t), (1, .string nx)] w4 (by kernel_rfl) ?_
    rcases Bool.eq_false_or_eq_true (letB (byteAt nx 0)) with fk13 | fk13
    · skip
      refine J.head (.bool true) (congrArg Value.bool fk13) ?_
      refine J.run 11 K39_32 [(4, .int .i64 3)] w4 (by kernel_rfl) ?_
      refine J.ret Tryd.f39 [.int .i64 3] Tryd.func39 ⟨by kernel_rfl, trivial⟩ ?_
      refine hR _ _ ?_
      exact ⟨congrArg (Value.int .i64) (numE_bad (.inl (by rw [hnx, decide_eq_true (by omega)]; first | (rw [fk13]; rfl) | (rw [decide_eq_true (by omega), Bool.or_true]; rfl)))).symm, S4.nil⟩
    · skip
      refine J.head (.bool false) (congrArg Value.bool fk13) ?_
      refine J.run 1 K39_33 [(15, .string nx), (14, .bool false), (10, .bool true), (0, .string t)] w4 (by kernel_rfl) ?_
      have := byteAt_bounds nx 0
      refine J.ok (OK.byte 16 9 nx (0 : Int) (byteAt nx 0) (by kernel_rfl) (by kernel_rfl) (by omega) (by omega) (rfl)) ?_
      refine J.run 4 K39_34 [(19, .bool ((byteAt nx 0) == 95)), (0, .string t)] w4 (by kernel_rfl) ?_
      by_cases fk14 : (byteAt nx 0) = 95
      · skip
        refine J.head (.bool true) (congrArg Value.bool (beq_iff_eq.2 fk14)) ?_
        refine J.run 5 K39_35 [(4, .int .i64 3)] w4 (by kernel_rfl) ?_
        refine J.ret Tryd.f39 [.int .i64 3] Tryd.func39 ⟨by kernel_rfl, trivial⟩ ?_
        refine hR _ _ ?_
        exact ⟨congrArg (Value.int .i64) (numE_bad (.inl (by rw [hnx, decide_eq_true (by omega)]; first | (rw [fk13]; rfl) | (rw [decide_eq_true (by omega), Bool.or_true]; rfl)))).symm, S4.nil⟩
      · skip
        refine J.head (.bool false) (congrArg Value.bool (beq_eq_false_iff_ne.2 fk14)) ?_
        refine J.run 11 K39_36 [(21, .string t), (5, .string t), (0, .string t)] w4 (by kernel_rfl) ?_
        have := byteAt_bounds t 0
        refine J.ok (OK.byte 22 9 t (0 : Int) (byteAt t 0) (by kernel_rfl) (by kernel_rfl) (by omega) (by omega) (rfl)) ?_
        refine J.run 2 K39_37 [(23, .bool ((byteAt t 0) == 45)), (5, .string t), (0, .string t)] w4 (by kernel_rfl) ?_
        have X2 : ∀ (d : ByteArray) (w5 : World), (ls d = digL (ls t)) → (negL (ls t) = false → (d).size = t.size) → (negL (ls t) = true → t.size = (d).size + 1) → Sep w [] w5 → J Tryd.prog 39 51 R K39_38 [(0, .string t), (5, .string d)] w5 := by
          intro d w5 hd hng hng2 S5
          have hdl := ls_length d
          have hdz : 1 ≤ d.size := by have h3_ := List.length_pos_iff.2 hne; rw [← hd] at h3_; omega
          have hns : t.size = d.size ∨ t.size = d.size + 1 := by cases hn_ : negL (ls t); (have := hng hn_; omega); (have := hng2 hn_; omega)
          refine J.run 4 K39_39 [(26, .string d), (0, .string t)] w5 (by kernel_rfl) ?_
          have := byteAt_bounds d 0
          refine J.ok (OK.byte 27 9 d (0 : Int) (byteAt d 0) (by kernel_rfl) (by kernel_rfl) (by omega) (by omega) (rfl)) ?_
          refine J.run 2 K39_40 [(29, .bool ((byteAt d 0) == 48)), (0, .string t)] w5 (by kernel_rfl) ?_
          by_cases fk15 : (byteAt d 0) = 48
          · skip
            refine J.head (.bool true) (congrArg Value.bool (beq_iff_eq.2 fk15)) ?_
            refine J.run 5 K39_41 [(33, .bool (decide ((t.size : Int) > 1))), (0, .string t)] w5 (by kernel_rfl) ?_
            by_cases fk16 : (t.size : Int) > 1
            · skip
              refine J.head (.bool true) (congrArg Value.bool (decide_eq_true fk16)) ?_
              refine J.run 5 K39_42 [(4, .int .i64 3)] w5 (by kernel_rfl) ?_
              refine J.ret Tryd.f39 [.int .i64 3] Tryd.func39 ⟨by kernel_rfl, trivial⟩ ?_
              refine hR _ _ ?_
              have hcan := can_eq (s := t) (d := d) hd
              have hnx0 : nextB (ls nx) = false := by rw [hnx]; first | (rw [decide_eq_false (by omega)]; rfl) | (rw [fk13, Bool.false_or, decide_eq_false (show ¬ byteAt nx 0 = 95 by omega), Bool.and_false])
              exact ⟨congrArg (Value.int .i64) (numE_bad (.inr (can_no hd (by omega) (by omega) hng))).symm, S5.nil⟩
            · skip
              refine J.head (.bool false) (congrArg Value.bool (decide_eq_false fk16)) ?_
              refine J.run 9 K39_43 [(36, .bool (decide ((t.size : Int) > 20))), (0, .string t)] w5 (by kernel_rfl) ?_
              by_cases fk17 : (t.size : Int) > 20
              · skip
                refine J.head (.bool true) (congrArg Value.bool (decide_eq_true fk17)) ?_
                refine J.run 5 K39_44 [(4, .int .i64 9)] w5 (by kernel_rfl) ?_
                refine J.ret Tryd.f39 [.int .i64 9] Tryd.func39 ⟨by kernel_rfl, trivial⟩ ?_
                refine hR _ _ ?_
                have hcan := can_eq (s := t) (d := d) hd
                have hnx0 : nextB (ls nx) = false := by rw [hnx]; first | (rw [decide_eq_false (by omega)]; rfl) | (rw [fk13, Bool.false_or, decide_eq_false (show ¬ byteAt nx 0 = 95 by omega), Bool.and_false])
                have hc1 : canL (ls t) = true := by rw [hcan, decide_eq_false (show ¬ d.size = 0 by omega)]; first | (rw [decide_eq_false (show ¬ byteAt d 0 = 48 by omega)]; rfl) | (cases hn_ : negL (ls t); (rw [decide_eq_true (show d.size = 1 by have := hng hn_; omega)]; simp); (have := hng2 hn_; exfalso; omega))
                exact ⟨congrArg (Value.int .i64) (numE_great hnx0 hc1 (great_long hc1 hdg (by omega))).symm, S5.nil⟩
              · skip
                refine J.head (.bool false) (congrArg Value.bool (decide_eq_false fk17)) ?_
                refine J.run 5 K39_45 [(38, .string t)] w5 (by kernel_rfl) ?_
                refine J.callF 39 51 #[.string t] hb51 (by kernel_rfl) (rparse_any t _ (by omega)) ?_
                rintro _ w6 ⟨rfl, T4⟩
                have S6 : Sep w [] w6 := S5.trans T4
                clear T4 S5
                have := par_bounds t
                refine J.run 12 K39_46 [(43, .bool ((parE t) != 0)), (7, .int .i64 (parE t)), (6, .int .i64 (parX t))] w6 (by kernel_rfl) ?_
                by_cases fk18 : (parE t) = 0
                · skip
                  refine J.head (.bool false) (congrArg Value.bool (bne_eq_false_iff_eq.2 fk18)) ?_
                  refine J.run 8 K39_47 [(47, .bool (decide ((parX t) > 1099511627776))), (6, .int .i64 (parX t))] w6 (by kernel_rfl) ?_
                  by_cases fk19 : (parX t) > 1099511627776
                  · skip
                    refine J.head (.bool true) (congrArg Value.bool (decide_eq_true fk19)) ?_
                    refine J.run 9 K39_48 [(4, .int .i64 9)] w6 (by kernel_rfl) ?_
                    refine J.ret Tryd.f39 [.int .i64 9] Tryd.func39 ⟨by kernel_rfl, trivial⟩ ?_
                    refine hR _ _ ?_
                    have hcan := can_eq (s := t) (d := d) hd
                    have hnx0 : nextB (ls nx) = false := by rw [hnx]; first | (rw [decide_eq_false (by omega)]; rfl) | (rw [fk13, Bool.false_or, decide_eq_false (show ¬ byteAt nx 0 = 95 by omega), Bool.and_false])
                    have hc1 : canL (ls t) = true := by rw [hcan, decide_eq_false (show ¬ d.size = 0 by omega)]; first | (rw [decide_eq_false (show ¬ byteAt d 0 = 48 by omega)]; rfl) | (cases hn_ : negL (ls t); (rw [decide_eq_true (show d.size = 1 by have := hng hn_; omega)]; simp); (have := hng2 hn_; exfalso; omega))
                    exact ⟨congrArg (Value.int .i64) (numE_great hnx0 hc1 (by rw [great_eq, decide_eq_true (show parE t = 0 by omega)]; first | (rw [decide_eq_true (show parX t > 1099511627776 by omega)]; rfl) | (rw [decide_eq_true (show parX t < -1099511627776 by omega), Bool.or_true]; rfl))).symm, S6.nil⟩
                  · skip
                    refine J.head (.bool false) (congrArg Value.bool (decide_eq_false fk19)) ?_
                    refine J.run 4 K39_49 [(50, .bool (decide ((parX t) < (-1099511627776))))] w6 (by kernel_rfl) ?_
                    by_cases fk20 : (parX t) < (-1099511627776)
                    · skip
                      refine J.head (.bool true) (congrArg Value.bool (decide_eq_true fk20)) ?_
                      refine J.run 5 K39_50 [(4, .int .i64 9)] w6 (by kernel_rfl) ?_
                      refine J.ret Tryd.f39 [.int .i64 9] Tryd.func39 ⟨by kernel_rfl, trivial⟩ ?_
                      refine hR _ _ ?_
                      have hcan := can_eq (s := t) (d := d) hd
                      have hnx0 : nextB (ls nx) = false := by rw [hnx]; first | (rw [decide_eq_false (by omega)]; rfl) | (rw [fk13, Bool.false_or, decide_eq_false (show ¬ byteAt nx 0 = 95 by omega), Bool.and_false])
                      have hc1 : canL (ls t) = true := by rw [hcan, decide_eq_false (show ¬ d.size = 0 by omega)]; first | (rw [decide_eq_false (show ¬ byteAt d 0 = 48 by omega)]; rfl) | (cases hn_ : negL (ls t); (rw [decide_eq_true (show d.size = 1 by have := hng hn_; omega)]; simp); (have := hng2 hn_; exfalso; omega))
                      exact ⟨congrArg (Value.int .i64) (numE_great hnx0 hc1 (by rw [great_eq, decide_eq_true (show parE t = 0 by omega)]; first | (rw [decide_eq_true (show parX t > 1099511627776 by omega)]; rfl) | (rw [decide_eq_true (show parX t < -1099511627776 by omega), Bool.or_true]; rfl))).symm, S6.nil⟩
                    · skip
                      refine J.head (.bool false) (congrArg Value.bool (decide_eq_false fk20)) ?_
                      refine J.run 6 K39_51 [(4, .int .i64 0)] w6 (by kernel_rfl) ?_
                      refine J.ret Tryd.f39 [.int .i64 0] Tryd.func39 ⟨by kernel_rfl, trivial⟩ ?_
                      refine hR _ _ ?_
                      have hcan := can_eq (s := t) (d := d) hd
                      have hnx0 : nextB (ls nx) = false := by rw [hnx]; first | (rw [decide_eq_false (by omega)]; rfl) | (rw [fk13, Bool.false_or, decide_eq_false (show ¬ byteAt nx 0 = 95 by omega), Bool.and_false])
                      have hc1 : canL (ls t) = true := by rw [hcan, decide_eq_false (show ¬ d.size = 0 by omega)]; first | (rw [decide_eq_false (show ¬ byteAt d 0 = 48 by omega)]; rfl) | (cases hn_ : negL (ls t); (rw [decide_eq_true (show d.size = 1 by have := hng hn_; omega)]; simp); (have := hng2 hn_; exfalso; omega))
                      exact ⟨congrArg (Value.int .i64) (numE_ok hnx0 hc1 (by rw [great_eq, decide_eq_true (show parE t = 0 by omega), decide_eq_false (show ¬ parX t > 1099511627776 by omega), decide_eq_false (show ¬ parX t < -1099511627776 by omega)]; rfl)).symm, S6.nil⟩
                · skip
                  refine J.head (.bool true) (congrArg Value.bool (bne_iff_ne.2 fk18)) ?_
                  refine J.run 6 K39_52 [(4, .int .i64 (parE t))] w6 (by kernel_rfl) ?_
                  refine J.ret Tryd.f39 [.int .i64 (parE t)] Tryd.func39 ⟨by kernel_rfl, trivial⟩ ?_
                  refine hR _ _ ?_
                  have hcan := can_eq (s := t) (d := d) hd
                  have hnx0 : nextB (ls nx) = false := by rw [hnx]; first | (rw [decide_eq_false (by omega)]; rfl) | (rw [fk13, Bool.false_or, decide_eq_false (show ¬ byteAt nx 0 = 95 by omega), Bool.and_false])
                  have hc1 : canL (ls t) = true := by rw [hcan, decide_eq_false (show ¬ d.size = 0 by omega)]; first | (rw [decide_eq_false (show ¬ byteAt d 0 = 48 by omega)]; rfl) | (cases hn_ : negL (ls t); (rw [decide_eq_true (show d.size = 1 by have := hng hn_; omega)]; simp); (have := hng2 hn_; exfalso; omega))
                  have h9 := par_err hc1 hdg (by omega) (by omega)
                  exact ⟨congrArg (Value.int .i64) (h9.trans (numE_great hnx0 hc1 (by rw [great_eq, decide_eq_false (show ¬ parE t = 0 by omega)]; rfl)).symm), S6.nil⟩
          · skip
            refine J.head (.bool false) (congrArg Value.bool (beq_eq_false_iff_ne.2 fk15)) ?_
            refine J.run 14 K39_53 [(36, .bool (decide ((t.size : Int) > 20))), (0, .string t)] w5 (by kernel_rfl) ?_
            by_cases fk21 : (t.size : Int) > 20
            · skip
              refine J.head (.bool true) (congrArg Value.bool (decide_eq_true fk21)) ?_
              refine J.run 5 K39_54 [(4, .int .i64 9)] w5 (by kernel_rfl) ?_
              refine J.ret Tryd.f39 [.int .i64 9] Tryd.func39 ⟨by kernel_rfl, trivial⟩ ?_
              refine hR _ _ ?_
              have hcan := can_eq (s := t) (d := d) hd
              have hnx0 : nextB (ls nx) = false := by rw [hnx]; first | (rw [decide_eq_false (by omega)]; rfl) | (rw [fk13, Bool.false_or, decide_eq_false (show ¬ byteAt nx 0 = 95 by omega), Bool.and_false])
              have hc1 : canL (ls t) = true := by rw [hcan, decide_eq_false (show ¬ d.size = 0 by omega)]; first | (rw [decide_eq_false (show ¬ byteAt d 0 = 48 by omega)]; rfl) | (cases hn_ : negL (ls t); (rw [decide_eq_true (show d.size = 1 by have := hng hn_; omega)]; simp); (have := hng2 hn_; exfalso; omega))
              exact ⟨congrArg (Value.int .i64) (numE_great hnx0 hc1 (great_long hc1 hdg (by omega))).symm, S5.nil⟩
            · skip
              refine J.head (.bool false) (congrArg Value.bool (decide_eq_false fk21)) ?_
              refine J.run 5 K39_55 [(38, .string t)] w5 (by kernel_rfl) ?_
              refine J.callF 39 51 #[.string t] hb51 (by kernel_rfl) (rparse_any t _ (by omega)) ?_
              rintro _ w7 ⟨rfl, T5⟩
              have S7 : Sep w [] w7 := S5.trans T5
              clear T5 S5
              have := par_bounds t
              refine J.run 12 K39_56 [(43, .bool ((parE t) != 0)), (7, .int .i64 (parE t)), (6, .int .i64 (parX t))] w7 (by kernel_rfl) ?_
              by_cases fk22 : (parE t) = 0
              · skip
                refine J.head (.bool false) (congrArg Value.bool (bne_eq_false_iff_eq.2 fk22)) ?_
                refine J.run 8 K39_57 [(47, .bool (decide ((parX t) > 1099511627776))), (6, .int .i64 (parX t))] w7 (by kernel_rfl) ?_
                by_cases fk23 : (parX t) > 1099511627776
                · skip
                  refine J.head (.bool true) (congrArg Value.bool (decide_eq_true fk23)) ?_
                  refine J.run 9 K39_58 [(4, .int .i64 9)] w7 (by kernel_rfl) ?_
                  refine J.ret Tryd.f39 [.int .i64 9] Tryd.func39 ⟨by kernel_rfl, trivial⟩ ?_
                  refine hR _ _ ?_
                  have hcan := can_eq (s := t) (d := d) hd
                  have hnx0 : nextB (ls nx) = false := by rw [hnx]; first | (rw [decide_eq_false (by omega)]; rfl) | (rw [fk13, Bool.false_or, decide_eq_false (show ¬ byteAt nx 0 = 95 by omega), Bool.and_false])
                  have hc1 : canL (ls t) = true := by rw [hcan, decide_eq_false (show ¬ d.size = 0 by omega)]; first | (rw [decide_eq_false (show ¬ byteAt d 0 = 48 by omega)]; rfl) | (cases hn_ : negL (ls t); (rw [decide_eq_true (show d.size = 1 by have := hng hn_; omega)]; simp); (have := hng2 hn_; exfalso; omega))
                  exact ⟨congrArg (Value.int .i64) (numE_great hnx0 hc1 (by rw [great_eq, decide_eq_true (show parE t = 0 by omega)]; first | (rw [decide_eq_true (show parX t > 1099511627776 by omega)]; rfl) | (rw [decide_eq_true (show parX t < -1099511627776 by omega), Bool.or_true]; rfl))).symm, S7.nil⟩
                · skip
                  refine J.head (.bool false) (congrArg Value.bool (decide_eq_false fk23)) ?_
                  refine J.run 4 K39_59 [(50, .bool (decide ((parX t) < (-1099511627776))))] w7 (by kernel_rfl) ?_
                  by_cases fk24 : (parX t) < (-1099511627776)
                  · skip
                    refine J.head (.bool true) (congrArg Value.bool (decide_eq_true fk24)) ?_
                    refine J.run 5 K39_60 [(4, .int .i64 9)] w7 (by kernel_rfl) ?_
                    refine J.ret Tryd.f39 [.int .i64 9] Tryd.func39 ⟨by kernel_rfl, trivial⟩ ?_
                    refine hR _ _ ?_
                    have hcan := can_eq (s := t) (d := d) hd
                    have hnx0 : nextB (ls nx) = false := by rw [hnx]; first | (rw [decide_eq_false (by omega)]; rfl) | (rw [fk13, Bool.false_or, decide_eq_false (show ¬ byteAt nx 0 = 95 by omega), Bool.and_false])
                    have hc1 : canL (ls t) = true := by rw [hcan, decide_eq_false (show ¬ d.size = 0 by omega)]; first | (rw [decide_eq_false (show ¬ byteAt d 0 = 48 by omega)]; rfl) | (cases hn_ : negL (ls t); (rw [decide_eq_true (show d.size = 1 by have := hng hn_; omega)]; simp); (have := hng2 hn_; exfalso; omega))
                    exact ⟨congrArg (Value.int .i64) (numE_great hnx0 hc1 (by rw [great_eq, decide_eq_true (show parE t = 0 by omega)]; first | (rw [decide_eq_true (show parX t > 1099511627776 by omega)]; rfl) | (rw [decide_eq_true (show parX t < -1099511627776 by omega), Bool.or_true]; rfl))).symm, S7.nil⟩
                  · skip
                    refine J.head (.bool false) (congrArg Value.bool (decide_eq_false fk24)) ?_
                    refine J.run 6 K39_61 [(4, .int .i64 0)] w7 (by kernel_rfl) ?_
                    refine J.ret Tryd.f39 [.int .i64 0] Tryd.func39 ⟨by kernel_rfl, trivial⟩ ?_
                    refine hR _ _ ?_
                    have hcan := can_eq (s := t) (d := d) hd
                    have hnx0 : nextB (ls nx) = false := by rw [hnx]; first | (rw [decide_eq_false (by omega)]; rfl) | (rw [fk13, Bool.false_or, decide_eq_false (show ¬ byteAt nx 0 = 95 by omega), Bool.and_false])
                    have hc1 : canL (ls t) = true := by rw [hcan, decide_eq_false (show ¬ d.size = 0 by omega)]; first | (rw [decide_eq_false (show ¬ byteAt d 0 = 48 by omega)]; rfl) | (cases hn_ : negL (ls t); (rw [decide_eq_true (show d.size = 1 by have := hng hn_; omega)]; simp); (have := hng2 hn_; exfalso; omega))
                    exact ⟨congrArg (Value.int .i64) (numE_ok hnx0 hc1 (by rw [great_eq, decide_eq_true (show parE t = 0 by omega), decide_eq_false (show ¬ parX t > 1099511627776 by omega), decide_eq_false (show ¬ parX t < -1099511627776 by omega)]; rfl)).symm, S7.nil⟩
              · skip
                refine J.head (.bool true) (congrArg Value.bool (bne_iff_ne.2 fk22)) ?_
                refine J.run 6 K39_62 [(4, .int .i64 (parE t))] w7 (by kernel_rfl) ?_
                refine J.ret Tryd.f39 [.int .i64 (parE t)] Tryd.func39 ⟨by kernel_rfl, trivial⟩ ?_
                refine hR _ _ ?_
                have hcan := can_eq (s := t) (d := d) hd
                have hnx0 : nextB (ls nx) = false := by rw [hnx]; first | (rw [decide_eq_false (by omega)]; rfl) | (rw [fk13, Bool.false_or, decide_eq_false (show ¬ byteAt nx 0 = 95 by omega), Bool.and_false])
                have hc1 : canL (ls t) = true := by rw [hcan, decide_eq_false (show ¬ d.size = 0 by omega)]; first | (rw [decide_eq_false (show ¬ byteAt d 0 = 48 by omega)]; rfl) | (cases hn_ : negL (ls t); (rw [decide_eq_true (show d.size = 1 by have := hng hn_; omega)]; simp); (have := hng2 hn_; exfalso; omega))
                have h9 := par_err hc1 hdg (by omega) (by omega)
                exact ⟨congrArg (Value.int .i64) (h9.trans (numE_great hnx0 hc1 (by rw [great_eq, decide_eq_false (show ¬ parE t = 0 by omega)]; rfl)).symm), S7.nil⟩
        by_cases fk25 : (byteAt t 0) = 45
        · skip
          refine J.head (.bool true) (congrArg Value.bool (beq_iff_eq.2 fk25)) ?_
          refine J.run 3 K39_63 [(24, .string t), (0, .string t)] w4 (by kernel_rfl) ?_
          refine J.ok (OK.sliceT 25 9 t (some (.int .i64 1)) none 1 t.size (by kernel_rfl) (by kernel_rfl) (.inr ⟨_, _, rfl, rfl⟩) (.inl ⟨rfl, rfl⟩) (by first | omega | (simp; omega)) (by first | omega | (simp; omega))) ?_
          have := size_extract t (i := 1) (j := t.size) (by first | omega | (simp; omega))
          refine J.run 2 K39_38 [(0, .string t), (5, .string (t.extract 1 t.size))] w4 (by kernel_rfl) ?_
          exact X2 (t.extract 1 t.size) w4 (by first | exact (dig_minus (by omega) (by omega)).1 | exact (dig_plain (by omega)).1) (by first | (intro _; rfl) | (intro h_; rw [(dig_minus (s := t) (by omega) (by omega)).2] at h_; cases h_)) (by first | (intro h_; rw [(dig_plain (s := t) (by omega)).2] at h_; cases h_) | (intro _; rw [size_extract t (Nat.le_refl _)]; omega)) S4
        · skip
          refine J.head (.bool false) (congrArg Value.bool (beq_eq_false_iff_ne.2 fk25)) ?_
          refine J.run 2 K39_38 [(0, .string t), (5, .string t)] w4 (by kernel_rfl) ?_
          exact X2 t w4 (by first | exact (dig_minus (by omega) (by omega)).1 | exact (dig_plain (by omega)).1) (by first | (intro _; rfl) | (intro h_; rw [(dig_minus (s := t) (by omega) (by omega)).2] at h_; cases h_)) (by first | (intro h_; rw [(dig_plain (s := t) (by omega)).2] at h_; cases h_) | (intro _; rw [size_extract t (Nat.le_refl _)]; omega)) S4

end Go.Proofs.YtlklealllohmgaaDoor
