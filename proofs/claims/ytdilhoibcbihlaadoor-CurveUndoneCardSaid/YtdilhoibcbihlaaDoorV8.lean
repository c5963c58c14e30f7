/- Walks of functions of this seat, printed by a program over the engine. Conditions: as each theorem says. -/
import Derived.Test.YtdilhoibcbihlaaDoorV7
namespace Go.Proofs.YtdilhoibcbihlaaDoor
open Go.Eng Go.RowKit
set_option linter.unusedSimpArgs false
set_option linter.unusedVariables false
theorem hb44 : HasBody Tryd.prog 44 := fun _ _ => by kernel_rfl
noncomputable def K44_0 : List Item := adv 9 [] (bodyOf Tryd.f44)
noncomputable def K44_1 : List Item := adv 5 [] K44_0
noncomputable def K44_2 : List Item := adv 5 [] K44_0
set_option maxRecDepth 20000 in
set_option maxHeartbeats 20000000 in
theorem rfits_any (n : Int) (w : World) : Ret Tryd.prog 44 #[.int .i64 n] w (fun v w' => v = .bool (elB n) ∧ Sep w [] w') := by
  have S0 := Sep.refl w
  refine Ret.named fun R hR => ?_
  refine Ret.of_J (N := 9) [(0, .int .i64 n)] Tryd.func44 rfl rfl (Nat.le_of_ble_eq_true (by kernel_rfl)) (by kernel_rfl) ?_
  refine J.run 9 K44_0 [(5, .bool (decide (n ≥ (-1073741824)))), (0, .int .i64 n)] w (by kernel_rfl) ?_
  by_cases fk1 : n ≥ (-1073741824)
  · skip
    refine J.head (.bool true) (congrArg Value.bool (decide_eq_true fk1)) ?_
    refine J.run 5 K44_1 [(2, .bool (decide (n ≤ 1073741824)))] w (by kernel_rfl) ?_
    refine J.ret Tryd.f44 [.bool (decide (n ≤ 1073741824))] Tryd.func44 ⟨by kernel_rfl, trivial⟩ ?_
    refine hR _ _ ?_
    exact ⟨congrArg Value.bool (by rw [Bool.eq_iff_iff]; simp [elB]; omega), S0.nil⟩
  · skip
    refine J.head (.bool false) (congrArg Value.bool (decide_eq_false fk1)) ?_
    refine J.run 5 K44_2 [(2, .bool false)] w (by kernel_rfl) ?_
    refine J.ret Tryd.f44 [.bool false] Tryd.func44 ⟨by kernel_rfl, trivial⟩ ?_
    refine hR _ _ ?_
    exact ⟨congrArg Value.bool (by rw [Bool.eq_iff_iff]; simp [elB]; omega), S0.nil⟩

theorem hb43 : HasBody Tryd.prog 43 := fun _ _ => by kernel_rfl
noncomputable def K43_0 : List Item := adv 11 [] (bodyOf Tryd.f43)
noncomputable def K43_1 : List Item := adv 10 [true] K43_0
noncomputable def K43_2 : List Item := adv 5 [] K43_0
noncomputable def K43_3 : List Item := adv 5 [true] K43_2
noncomputable def K43_4 : List Item := adv 9 [false] K43_2
noncomputable def K43_5 : List Item := adv 8 [] K43_4
noncomputable def K43_6 : List Item := adv 5 [true] K43_5
noncomputable def K43_7 : List Item := adv 5 [true] (rRest K43_6)
noncomputable def K43_8 : List Item := adv 6 [false] (rRest K43_6)
noncomputable def K43_9 : List Item := adv 6 [false] (rRest K43_6)
noncomputable def K43_10 : List Item := adv 5 [true] (rRest K43_6)
noncomputable def K43_11 : List Item := adv 6 [false] K43_5
set_option maxRecDepth 20000 in
set_option maxHeartbeats 20000000 in
theorem rcaxis_any (la : Option Addr) (len cap : Nat) (l : List Int) (w : World) (hI : Ints w la len l) (hlen : len ≤ 9223372036854775807) : Ret Tryd.prog 43 #[.slice la len cap] w (fun v w' => v = .bool (axisB l) ∧ Sep w [] w') := by
  have S0 := Sep.refl w
  refine Ret.named fun R hR => ?_
  refine Ret.of_J (N := 40) [(0, .slice la len cap)] Tryd.func43 rfl rfl (Nat.le_of_ble_eq_true (by kernel_rfl)) (by kernel_rfl) ?_
  have hll := hI.len_eq
  refine J.run 11 K43_0 [(7, .bool (decide ((len : Int) < 2))), (0, .slice la len cap)] w (by kernel_rfl) ?_
  by_cases fk1 : (len : Int) < 2
  · skip
    refine J.head (.bool true) (congrArg Value.bool (decide_eq_true fk1)) ?_
    refine J.run 10 K43_1 [(2, .bool false)] w (by kernel_rfl) ?_
    refine J.ret Tryd.f43 [.bool false] Tryd.func43 ⟨by kernel_rfl, trivial⟩ ?_
    refine hR _ _ ?_
    exact ⟨congrArg Value.bool (axis_no (by omega)).symm, S0.nil⟩
  · skip
    refine J.head (.bool false) (congrArg Value.bool (decide_eq_false fk1)) ?_
    refine J.run 5 K43_2 [(11, .bool (decide ((len : Int) > 32))), (0, .slice la len cap)] w (by kernel_rfl) ?_
    by_cases fk2 : (len : Int) > 32
    · skip
      refine J.head (.bool true) (congrArg Value.bool (decide_eq_true fk2)) ?_
      refine J.run 5 K43_3 [(2, .bool false)] w (by kernel_rfl) ?_
      refine J.ret Tryd.f43 [.bool false] Tryd.func43 ⟨by kernel_rfl, trivial⟩ ?_
      refine hR _ _ ?_
      exact ⟨congrArg Value.bool (axis_no (by omega)).symm, S0.nil⟩
    · skip
      refine J.head (.bool false) (congrArg Value.bool (decide_eq_false fk2)) ?_
      refine J.run 9 K43_4 [(3, .int .i64 0), (0, .slice la len cap)] w (by kernel_rfl) ?_
      have L43_1 : ∀ (mm_ : Nat) (i : Int) (w1 : World), (0 ≤ i) → (i ≤ (len : Int)) → (∀ j, j < (i).toNat → nodeB l j = true) → Sep w [] w1 → ((len : Int) - i).toNat = mm_ → J Tryd.prog 43 40 R K43_4 [(3, .int .i64 i), (0, .slice la len cap)] w1 := by
        intro mm1
        induction mm1 using Nat.strongRecOn with
        | _ mm1 ih1 =>
        intro i w1 h0 h1 hq S1 hm1
        refine J.run 8 K43_5 [(15, .bool (decide (i < (len : Int)))), (3, .int .i64 i), (0, .slice la len cap)] w1 (by kernel_rfl) ?_
        by_cases fk3 : i < (len : Int)
        · skip
          refine J.head (.bool true) (congrArg Value.bool (decide_eq_true fk3)) ?_
          refine J.run 5 K43_6 [(3, .int .i64 i), (0, .slice la len cap)] w1 (by kernel_rfl) ?_
          rcases Bool.eq_false_or_eq_true (elB (l.getD (i).toNat 0)) with fk4 | fk4
          · skip
            by_cases fk5 : i > 0
            · skip
              obtain ⟨p1, hp1, hc1⟩ := hI.at 0 (i).toNat (by omega)
              obtain ⟨p2, hp2, hc2⟩ := hI.at 0 (i - 1).toNat (by omega)
              refine J.drawPlan (fun w_ => Sep w [] w_) [(0, true), (1, true), (2, true), (3, true), (4, false), (5, true), (6, true), (7, true), (8, true), (9, true), (10, true), (11, true), (12, true), (13, true), (14, true), (15, true), (16, true), (17, true), (18, true), (19, true), (20, true), (21, true)] S1 Tryd.mixed (by kernel_rfl) (planOK_of (T := [(0, some 18, 1), (0, some 19, 8), (3, some 20, 786432), (4, some 21, 1048576), (8, some 22, 2097152), (16, some 23, 4194304), (48, some 24, 8388608), (64, some 25, 16777224), (192, some 26, 50331648), (320, some 27, 83886080), (512, some 28, 134217729), (512, some 29, 134217736), (3584, some 30, 939524096), (4608, some 31, 1207959552), (512, some 32, 134217729), (512, some 33, 134217736), (33280, some 34, 8724152320), (82432, some 35, 21609054208), (131584, some 36, 34493956096), (270848, some 37, 71001178112), (524864, some 38, 137589948416), (1048640, some 39, 274894684160)]) (by kernel_rfl) (by kernel_rfl)) ?_
              intro w2 S2
              refine PB.mk (S2.sub (.slnil)) ?_
              refine PL.take 0 18 (.slice la len cap) (fun _ _ => by kernel_rfl) ?_
              refine PL.take 1 19 (.int .i64 i) (fun _ _ => by kernel_rfl) ?_
              refine PL.takeOK 2 (fun w_ S_ => OK.index 20 22 1 la p1 len (i).toNat i (p1.add (i).toNat) (by kernel_rfl) (by kernel_rfl) hp1 (by omega) (by omega) (by rw [Nat.mul_one])) rfl ?_
              refine PL.takeOK 3 (fun w_ S_ => OK.ldCell 21 3 (p1.add (i).toNat) (.int .i64 (l.getD (i).toNat 0)) (by kernel_rfl) (by kernel_rfl) (S_.cell hc1)) rfl ?_
              refine PL.callF 22 44 #[.int .i64 (l.getD (i).toNat 0)] hb44 (by kernel_rfl) (rfits_any (l.getD (i).toNat 0) _) ?_
              rintro _ w3 ⟨rfl, T1⟩
              have S3 : Sep w [] w3 := S2.trans T1
              clear T1 S2
              refine PB.head (.bool true) (congrArg Value.bool fk4) ?_
              refine PB.mk (S3.sub (.slnil)) ?_
              refine PL.take 5 23 (.bool false) (fun _ _ => by kernel_rfl) ?_
              refine PL.take 6 24 (.bool false) (fun _ _ => by kernel_rfl) ?_
              refine PL.take 7 25 (.int .i64 i) (fun _ _ => by kernel_rfl) ?_
              refine PL.take 8 26 (.bool (decide (i > 0))) (fun _ _ => by kernel_rfl) ?_
              refine PL.head (.bool true) (congrArg Value.bool (decide_eq_true fk5)) ?_
              refine PL.take 9 27 (.bool true) (fun _ _ => by kernel_rfl) ?_
              refine PL.take 10 28 (.slice la len cap) (fun _ _ => by kernel_rfl) ?_
              refine PL.take 11 29 (.int .i64 i) (fun _ _ => by kernel_rfl) ?_
              refine PL.takeOK 12 (fun w_ S_ => OK.index 30 22 1 la p1 len (i).toNat i (p1.add (i).toNat) (by kernel_rfl) (by kernel_rfl) hp1 (by omega) (by omega) (by rw [Nat.mul_one])) rfl ?_
              refine PL.takeOK 13 (fun w_ S_ => OK.ldCell 31 3 (p1.add (i).toNat) (.int .i64 (l.getD (i).toNat 0)) (by kernel_rfl) (by kernel_rfl) (S_.cell hc1)) rfl ?_
              refine PL.take 14 32 (.slice la len cap) (fun _ _ => by kernel_rfl) ?_
              refine PL.take 15 33 (.int .i64 i) (fun _ _ => by kernel_rfl) ?_
              refine PL.take 16 34 (.int .i64 (IntKind.wrap .i64 (i - 1))) (fun _ _ => by kernel_rfl) ?_
              refine PL.head (.int .i64 (i - 1)) (congrArg (Value.int .i64) (IntWalk.i64_in _ (by omega))) ?_
              refine PL.takeOK 17 (fun w_ S_ => OK.index 35 22 1 la p2 len (i - 1).toNat (i - 1) (p2.add (i - 1).toNat) (by kernel_rfl) (by kernel_rfl) hp2 (by omega) (by omega) (by rw [Nat.mul_one])) rfl ?_
              refine PL.takeOK 18 (fun w_ S_ => OK.ldCell 36 3 (p2.add (i - 1).toNat) (.int .i64 (l.getD (i - 1).toNat 0)) (by kernel_rfl) (by kernel_rfl) (S_.cell hc2)) rfl ?_
              refine PL.take 19 37 (.bool (decide ((l.getD (i).toNat 0) ≤ (l.getD (i - 1).toNat 0)))) (fun _ _ => by kernel_rfl) ?_
              refine PL.take 20 38 (.bool (decide ((l.getD (i).toNat 0) ≤ (l.getD (i - 1).toNat 0)))) (fun _ _ => by kernel_rfl) ?_
              refine PL.take 21 39 (.bool (decide ((l.getD (i).toNat 0) ≤ (l.getD (i - 1).toNat 0)))) (fun _ _ => by kernel_rfl) ?_
              refine PL.done ?_
              refine J.run 0 (rRest K43_6) [(39, .bool (decide ((l.getD (i).toNat 0) ≤ (l.getD (i - 1).toNat 0)))), (3, .int .i64 i), (0, .slice la len cap)] w3 (by kernel_rfl) ?_
              by_cases fk6 : (l.getD (i).toNat 0) ≤ (l.getD (i - 1).toNat 0)
              · skip
                refine J.head (.bool true) (congrArg Value.bool (decide_eq_true fk6)) ?_
                refine J.run 5 K43_7 [(2, .bool false)] w3 (by kernel_rfl) ?_
                refine J.ret Tryd.f43 [.bool false] Tryd.func43 ⟨by kernel_rfl, trivial⟩ ?_
                refine hR _ _ ?_
                exact ⟨congrArg Value.bool (axis_bad h0 (by omega) (node_no h0 (by first | exact .inl fk4 | exact .inr ⟨by omega, by omega⟩))).symm, S3.nil⟩
              · skip
                refine J.head (.bool false) (congrArg Value.bool (decide_eq_false fk6)) ?_
                refine J.run 6 K43_8 [(17, .int .i64 (IntKind.wrap .i64 (i + 1))), (0, .slice la len cap)] w3 (by kernel_rfl) ?_
                refine J.head (.int .i64 (i + 1)) (congrArg (Value.int .i64) (IntWalk.i64_in _ (by omega))) ?_
                refine J.run 3 K43_4 [(3, .int .i64 (i + 1)), (0, .slice la len cap)] w3 (by kernel_rfl) ?_
                refine J.run 0 K43_4 [(3, .int .i64 (i + 1)), (0, .slice la len cap)] w3 (by kernel_rfl) ?_
                exact ih1 _ (show ((len : Int) - (i + 1)).toNat < mm1 from by omega) (i + 1) w3 (by omega) (by omega) (all_step h0 hq (node_yes h0 fk4 (by omega))) S3 rfl
            · skip
              obtain ⟨p3, hp3, hc3⟩ := hI.at 0 (i).toNat (by omega)
              refine J.drawPlan (fun w_ => Sep w [] w_) [(0, true), (1, true), (2, true), (3, true), (4, false), (5, true), (6, true), (7, true), (8, true), (9, true), (10, true), (11, true), (12, true), (13, true), (14, true), (15, true), (16, true), (17, true), (18, true), (19, true), (20, true), (21, true)] S1 Tryd.mixed (by kernel_rfl) (planOK_of (T := [(0, some 18, 1), (0, some 19, 8), (3, some 20, 786432), (4, some 21, 1048576), (8, some 22, 2097152), (16, some 23, 4194304), (48, some 24, 8388608), (64, some 25, 16777224), (192, some 26, 50331648), (320, some 27, 83886080), (512, some 28, 134217729), (512, some 29, 134217736), (3584, some 30, 939524096), (4608, some 31, 1207959552), (512, some 32, 134217729), (512, some 33, 134217736), (33280, some 34, 8724152320), (82432, some 35, 21609054208), (131584, some 36, 34493956096), (270848, some 37, 71001178112), (524864, some 38, 137589948416), (1048640, some 39, 274894684160)]) (by kernel_rfl) (by kernel_rfl)) ?_
              intro w4 S4
              refine PB.mk (S4.sub (.slnil)) ?_
              refine PL.take 0 18 (.slice la len cap) (fun _ _ => by kernel_rfl) ?_
              refine PL.take 1 19 (.int .i64 i) (fun _ _ => by kernel_rfl) ?_
              refine PL.takeOK 2 (fun w_ S_ => OK.index 20 22 1 la p3 len (i).toNat i (p3.add (i).toNat) (by kernel_rfl) (by kernel_rfl) hp3 (by omega) (by omega) (by rw [Nat.mul_one])) rfl ?_
              refine PL.takeOK 3 (fun w_ S_ => OK.ldCell 21 3 (p3.add (i).toNat) (.int .i64 (l.getD (i).toNat 0)) (by kernel_rfl) (by kernel_rfl) (S_.cell hc3)) rfl ?_
              refine PL.callF 22 44 #[.int .i64 (l.getD (i).toNat 0)] hb44 (by kernel_rfl) (rfits_any (l.getD (i).toNat 0) _) ?_
              rintro _ w5 ⟨rfl, T2⟩
              have S5 : Sep w [] w5 := S4.trans T2
              clear T2 S4
              refine PB.head (.bool true) (congrArg Value.bool fk4) ?_
              refine PB.mk (S5.sub (.slnil)) ?_
              refine PL.take 5 23 (.bool false) (fun _ _ => by kernel_rfl) ?_
              refine PL.take 6 24 (.bool false) (fun _ _ => by kernel_rfl) ?_
              refine PL.take 7 25 (.int .i64 i) (fun _ _ => by kernel_rfl) ?_
              refine PL.take 8 26 (.bool (decide (i > 0))) (fun _ _ => by kernel_rfl) ?_
              refine PL.head (.bool false) (congrArg Value.bool (decide_eq_false fk5)) ?_
              refine PL.take 9 27 (.bool false) (fun _ _ => by kernel_rfl) ?_
              refine PL.takePass 10 (some 28) (by kernel_rfl) ?_
              refine PL.takePass 11 (some 29) (by kernel_rfl) ?_
              refine PL.takePass 12 (some 30) (by kernel_rfl) ?_
              refine PL.takePass 13 (some 31) (by kernel_rfl) ?_
              refine PL.takePass 14 (some 32) (by kernel_rfl) ?_
              refine PL.takePass 15 (some 33) (by kernel_rfl) ?_
              refine PL.takePass 16 (some 34) (by kernel_rfl) ?_
              refine PL.takePass 17 (some 35) (by kernel_rfl) ?_
              refine PL.takePass 18 (some 36) (by kernel_rfl) ?_
              refine PL.takePass 19 (some 37) (by kernel_rfl) ?_
              refine PL.take 20 38 (.bool false) (fun _ _ => by kernel_rfl) ?_
              refine PL.take 21 39 (.bool false) (fun _ _ => by kernel_rfl) ?_
              refine PL.done ?_
              refine J.run 0 (rRest K43_6) [(39, .bool false), (3, .int .i64 i), (0, .slice la len cap)] w5 (by kernel_rfl) ?_
              refine J.run 6 K43_9 [(17, .int .i64 (IntKind.wrap .i64 (i + 1))), (0, .slice la len cap)] w5 (by kernel_rfl) ?_
              refine J.head (.int .i64 (i + 1)) (congrArg (Value.int .i64) (IntWalk.i64_in _ (by omega))) ?_
              refine J.run 3 K43_4 [(3, .int .i64 (i + 1)), (0, .slice la len cap)] w5 (by kernel_rfl) ?_
              refine J.run 0 K43_4 [(3, .int .i64 (i + 1)), (0, .slice la len cap)] w5 (by kernel_rfl) ?_
              exact ih1 _ (show ((len : Int) - (i + 1)).toNat < mm1 from by omega) (i + 1) w5 (by omega) (by omega) (all_step h0 hq (node_yes h0 fk4 (by omega))) S5 rfl
          · skip
            obtain ⟨p4, hp4, hc4⟩ := hI.at 0 (i).toNat (by omega)
            refine J.drawPlan (fun w_ => Sep w [] w_) [(0, true), (1, true), (2, true), (3, true), (4, false), (5, true), (6, true), (7, true), (8, true), (9, true), (10, true), (11, true), (12, true), (13, true), (14, true), (15, true), (16, true), (17, true), (18, true), (19, true), (20, true), (21, true)] S1 Tryd.mixed (by kernel_rfl) (planOK_of (T := [(0, some 18, 1), (0, some 19, 8), (3, some 20, 786432), (4, some 21, 1048576), (8, some 22, 2097152), (16, some 23, 4194304), (48, some 24, 8388608), (64, some 25, 16777224), (192, some 26, 50331648), (320, some 27, 83886080), (512, some 28, 134217729), (512, some 29, 134217736), (3584, some 30, 939524096), (4608, some 31, 1207959552), (512, some 32, 134217729), (512, some 33, 134217736), (33280, some 34, 8724152320), (82432, some 35, 21609054208), (131584, some 36, 34493956096), (270848, some 37, 71001178112), (524864, some 38, 137589948416), (1048640, some 39, 274894684160)]) (by kernel_rfl) (by kernel_rfl)) ?_
            intro w6 S6
            refine PB.mk (S6.sub (.slnil)) ?_
            refine PL.take 0 18 (.slice la len cap) (fun _ _ => by kernel_rfl) ?_
            refine PL.take 1 19 (.int .i64 i) (fun _ _ => by kernel_rfl) ?_
            refine PL.takeOK 2 (fun w_ S_ => OK.index 20 22 1 la p4 len (i).toNat i (p4.add (i).toNat) (by kernel_rfl) (by kernel_rfl) hp4 (by omega) (by omega) (by rw [Nat.mul_one])) rfl ?_
            refine PL.takeOK 3 (fun w_ S_ => OK.ldCell 21 3 (p4.add (i).toNat) (.int .i64 (l.getD (i).toNat 0)) (by kernel_rfl) (by kernel_rfl) (S_.cell hc4)) rfl ?_
            refine PL.callF 22 44 #[.int .i64 (l.getD (i).toNat 0)] hb44 (by kernel_rfl) (rfits_any (l.getD (i).toNat 0) _) ?_
            rintro _ w7 ⟨rfl, T3⟩
            have S7 : Sep w [] w7 := S6.trans T3
            clear T3 S6
            refine PB.head (.bool false) (congrArg Value.bool fk4) ?_
            refine PB.mk (S7.sub (.slnil)) ?_
            refine PL.take 5 23 (.bool true) (fun _ _ => by kernel_rfl) ?_
            refine PL.take 6 24 (.bool true) (fun _ _ => by kernel_rfl) ?_
            refine PL.takePass 7 (some 25) (by kernel_rfl) ?_
            refine PL.takePass 8 (some 26) (by kernel_rfl) ?_
            refine PL.takePass 9 (some 27) (by kernel_rfl) ?_
            refine PL.takePass 10 (some 28) (by kernel_rfl) ?_
            refine PL.takePass 11 (some 29) (by kernel_rfl) ?_
            refine PL.takePass 12 (some 30) (by kernel_rfl) ?_
            refine PL.takePass 13 (some 31) (by kernel_rfl) ?_
            refine PL.takePass 14 (some 32) (by kernel_rfl) ?_
            refine PL.takePass 15 (some 33) (by kernel_rfl) ?_
            refine PL.takePass 16 (some 34) (by kernel_rfl) ?_
            refine PL.takePass 17 (some 35) (by kernel_rfl) ?_
            refine PL.takePass 18 (some 36) (by kernel_rfl) ?_
            refine PL.takePass 19 (some 37) (by kernel_rfl) ?_
            refine PL.takePass 20 (some 38) (by kernel_rfl) ?_
            refine PL.take 21 39 (.bool true) (fun _ _ => by kernel_rfl) ?_
            refine PL.done ?_
            refine J.run 0 (rRest K43_6) [(39, .bool true), (3, .int .i64 i), (0, .slice la len cap)] w7 (by kernel_rfl) ?_
            refine J.run 5 K43_10 [(2, .bool false)] w7 (by kernel_rfl) ?_
            refine J.ret Tryd.f43 [.bool false] Tryd.func43 ⟨by kernel_rfl, trivial⟩ ?_
            refine hR _ _ ?_
            exact ⟨congrArg Value.bool (axis_bad h0 (by omega) (node_no h0 (by first | exact .inl fk4 | exact .inr ⟨by omega, by omega⟩))).symm, S7.nil⟩
        · skip
          refine J.head (.bool false) (congrArg Value.bool (decide_eq_false fk3)) ?_
          refine J.run 6 K43_11 [(2, .bool true)] w1 (by kernel_rfl) ?_
          refine J.ret Tryd.f43 [.bool true] Tryd.func43 ⟨by kernel_rfl, trivial⟩ ?_
          refine hR _ _ ?_
          exact ⟨congrArg Value.bool (axis_yes (by omega) (by omega) fun j hj => hq j (by omega)).symm, S1.nil⟩
      exact L43_1 _ 0 w (by omega) (by omega) (by intro j hj; simp at hj) S0 rfl

theorem hb17 : HasBody Tryd.prog 17 := fun _ _ => by kernel_rfl
noncomputable def K17_0 : List Item := adv 2 [] (bodyOf Tryd.f17)
noncomputable def K17_1 : List Item := adv 6 [] (popK K17_0)
noncomputable def K17_2 : List Item := adv 2 [] (popK (popK K17_1))
noncomputable def K17_3 : List Item := adv 1 [] K17_2
noncomputable def K17_4 : List Item := adv 2 [] (popK K17_3)
noncomputable def K17_5 : List Item := adv 4 [] (popK K17_4)
noncomputable def K17_6 : List Item := adv 9 [false] K17_5
noncomputable def K17_7 : List Item := adv 5 [] K17_6
noncomputable def K17_8 : List Item := adv 3 [] (popK K17_7)
noncomputable def K17_9 : List Item := adv 7 [true] K17_8
noncomputable def K17_10 : List Item := adv 1 [] (popK K17_9)
noncomputable def K17_11 : List Item := adv 2 [] (popK (popK (popK K17_10)))
noncomputable def K17_12 : List Item := adv 6 [false] K17_11
noncomputable def K17_13 : List Item := adv 5 [true] K17_11
noncomputable def K17_14 : List Item := adv 6 [false] K17_8
noncomputable def K17_15 : List Item := adv 5 [true] K17_5
noncomputable def K17_16 : List Item := adv 14 [true] K17_2
set_option maxRecDepth 20000 in
set_option maxHeartbeats 20000000 in
theorem rcvalid_any (c : Crv) (w : World) (hc : crvQ w c) : Ret Tryd.prog 17 #[.agg #[.slice c.gX_a c.gX_n c.gX_c, .slice c.gY_a c.gY_n c.gY_c]] w (fun v w' => v = .bool (validV c) ∧ Sep w [] w') := by
  have S0 := Sep.refl w
  refine Ret.named fun R hR => ?_
  refine Ret.of_J (N := 31) [(0, .agg #[.slice c.gX_a c.gX_n c.gX_c, .slice c.gY_a c.gY_n c.gY_c])] Tryd.func17 rfl rfl (Nat.le_of_ble_eq_true (by kernel_rfl)) (by kernel_rfl) ?_
  obtain ⟨q1, q2, q3, q4, q5, q6, _⟩ := id hc
  have ql1 := q2.len_eq
  have ql2 := q5.len_eq
  refine J.run 2 K17_0 [(0, .agg #[.slice c.gX_a c.gX_n c.gX_c, .slice c.gY_a c.gY_n c.gY_c])] w (by kernel_rfl) ?_
  refine J.new S0 1 [.slice c.gX_a c.gX_n c.gX_c, .slice c.gY_a c.gY_n c.gY_c] 24 (by kernel_rfl) ?_
  intro b1 w1 S1
  refine J.run 6 K17_1 [(4, .pointer (some ⟨b1, 0, none⟩)), (1, .pointer (some ⟨b1, 0, none⟩))] w1 (by kernel_rfl) ?_
  refine J.ok (OK.ldBox S1 0 5 22 0 (.slice c.gX_a c.gX_n c.gX_c) (by kernel_rfl) rfl (by kernel_rfl)) ?_
  refine J.callF 6 43 #[.slice c.gX_a c.gX_n c.gX_c] hb43 (by kernel_rfl) (rcaxis_any c.gX_a c.gX_n c.gX_c c.gX_l _ (q2.sep S1) (by first | omega | (simp; omega))) ?_
  rintro _ w2 ⟨rfl, T1⟩
  have S2 : Sep w [box b1 [.slice c.gX_a c.gX_n c.gX_c, .slice c.gY_a c.gY_n c.gY_c] 24] w2 := S1.trans T1
  clear T1 S1
  refine J.run 2 K17_2 [(8, .bool (!(axisB c.gX_l))), (1, .pointer (some ⟨b1, 0, none⟩))] w2 (by kernel_rfl) ?_
  rcases Bool.eq_false_or_eq_true (axisB c.gX_l) with fk1 | fk1
  · skip
    refine J.head (.bool false) (congrArg Value.bool (by rw [fk1]; rfl)) ?_
    refine J.run 1 K17_3 [(9, .pointer (some ⟨b1, 1, none⟩)), (8, .bool false), (1, .pointer (some ⟨b1, 0, none⟩))] w2 (by kernel_rfl) ?_
    refine J.ok (OK.ldBox S2 0 10 22 1 (.slice c.gY_a c.gY_n c.gY_c) (by kernel_rfl) rfl (by kernel_rfl)) ?_
    refine J.run 2 K17_4 [(12, .pointer (some ⟨b1, 0, none⟩)), (11, .int .i64 (c.gY_n : Int)), (8, .bool false), (1, .pointer (some ⟨b1, 0, none⟩))] w2 (by kernel_rfl) ?_
    refine J.ok (OK.ldBox S2 0 13 22 0 (.slice c.gX_a c.gX_n c.gX_c) (by kernel_rfl) rfl (by kernel_rfl)) ?_
    refine J.run 4 K17_5 [(16, .bool ((c.gY_n : Int) != (c.gX_n : Int))), (1, .pointer (some ⟨b1, 0, none⟩))] w2 (by kernel_rfl) ?_
    by_cases fk2 : (c.gY_n : Int) = (c.gX_n : Int)
    · skip
      refine J.head (.bool false) (congrArg Value.bool (bne_eq_false_iff_eq.2 fk2)) ?_
      refine J.run 9 K17_6 [(3, .int .i64 0), (1, .pointer (some ⟨b1, 0, none⟩))] w2 (by kernel_rfl) ?_
      have L17_1 : ∀ (mm_ : Nat) (i : Int) (w3 : World), (0 ≤ i) → (i ≤ (c.gY_n : Int)) → (∀ j, j < (i).toNat → elB (c.gY_l.getD j 0) = true) → Sep w [box b1 [.slice c.gX_a c.gX_n c.gX_c, .slice c.gY_a c.gY_n c.gY_c] 24] w3 → ((c.gY_n : Int) - i).toNat = mm_ → J Tryd.prog 17 31 R K17_6 [(3, .int .i64 i), (1, .pointer (some ⟨b1, 0, none⟩))] w3 := by
        intro mm1
        induction mm1 using Nat.strongRecOn with
        | _ mm1 ih1 =>
        intro i w3 h0 h1 hq S3 hm1
        refine J.run 5 K17_7 [(18, .pointer (some ⟨b1, 1, none⟩)), (17, .int .i64 i), (3, .int .i64 i), (1, .pointer (some ⟨b1, 0, none⟩))] w3 (by kernel_rfl) ?_
        refine J.ok (OK.ldBox S3 0 19 22 1 (.slice c.gY_a c.gY_n c.gY_c) (by kernel_rfl) rfl (by kernel_rfl)) ?_
        refine J.run 3 K17_8 [(21, .bool (decide (i < (c.gY_n : Int)))), (3, .int .i64 i), (1, .pointer (some ⟨b1, 0, none⟩))] w3 (by kernel_rfl) ?_
        by_cases fk3 : i < (c.gY_n : Int)
        · skip
          refine J.head (.bool true) (congrArg Value.bool (decide_eq_true fk3)) ?_
          refine J.run 7 K17_9 [(24, .pointer (some ⟨b1, 1, none⟩)), (3, .int .i64 i), (1, .pointer (some ⟨b1, 0, none⟩))] w3 (by kernel_rfl) ?_
          refine J.ok (OK.ldBox S3 0 25 22 1 (.slice c.gY_a c.gY_n c.gY_c) (by kernel_rfl) rfl (by kernel_rfl)) ?_
          refine J.run 1 K17_10 [(26, .int .i64 i), (25, .slice c.gY_a c.gY_n c.gY_c), (3, .int .i64 i), (1, .pointer (some ⟨b1, 0, none⟩))] w3 (by kernel_rfl) ?_
          obtain ⟨p1, hp1, hc1⟩ := q5.at 0 (i).toNat (by omega)
          have hel1 := getD_Q q6 0 (n := (i).toNat) (by have := q5.len_eq; omega)
          refine J.ok (OK.index 27 22 1 c.gY_a p1 c.gY_n (i).toNat i (p1.add (i).toNat) (by kernel_rfl) (by kernel_rfl) hp1 (by omega) (by omega) (by rw [Nat.mul_one])) ?_
          refine J.ok (OK.ldCell 28 3 (p1.add (i).toNat) (.int .i64 (c.gY_l.getD (i).toNat 0)) (by kernel_rfl) (by kernel_rfl) (S3.cell hc1)) ?_
          refine J.callF 29 44 #[.int .i64 (c.gY_l.getD (i).toNat 0)] hb44 (by kernel_rfl) (rfits_any (c.gY_l.getD (i).toNat 0) _) ?_
          rintro _ w4 ⟨rfl, T2⟩
          have S4 : Sep w [box b1 [.slice c.gX_a c.gX_n c.gX_c, .slice c.gY_a c.gY_n c.gY_c] 24] w4 := S3.trans T2
          clear T2 S3
          refine J.run 2 K17_11 [(30, .bool (!(elB (c.gY_l.getD (i).toNat 0)))), (3, .int .i64 i), (1, .pointer (some ⟨b1, 0, none⟩))] w4 (by kernel_rfl) ?_
          rcases Bool.eq_false_or_eq_true (elB (c.gY_l.getD (i).toNat 0)) with fk4 | fk4
          · skip
            refine J.head (.bool false) (congrArg Value.bool (by rw [fk4]; rfl)) ?_
            refine J.run 6 K17_12 [(23, .int .i64 (IntKind.wrap .i64 (i + 1))), (1, .pointer (some ⟨b1, 0, none⟩))] w4 (by kernel_rfl) ?_
            refine J.head (.int .i64 (i + 1)) (congrArg (Value.int .i64) (IntWalk.i64_in _ (by omega))) ?_
            refine J.run 3 K17_6 [(3, .int .i64 (i + 1)), (1, .pointer (some ⟨b1, 0, none⟩))] w4 (by kernel_rfl) ?_
            refine J.run 0 K17_6 [(3, .int .i64 (i + 1)), (1, .pointer (some ⟨b1, 0, none⟩))] w4 (by kernel_rfl) ?_
            exact ih1 _ (show ((c.gY_n : Int) - (i + 1)).toNat < mm1 from by omega) (i + 1) w4 (by omega) (by omega) (all_step (q := fun j => elB (c.gY_l.getD j 0) = true) h0 hq fk4) S4 rfl
          · skip
            refine J.head (.bool true) (congrArg Value.bool (by rw [fk4]; rfl)) ?_
            refine J.run 5 K17_13 [(2, .bool false)] w4 (by kernel_rfl) ?_
            refine J.ret Tryd.f17 [.bool false] Tryd.func17 ⟨by kernel_rfl, trivial⟩ ?_
            refine hR _ _ ?_
            exact ⟨congrArg Value.bool (validV_no (.inr (.inr (all_no 0 (j := i.toNat) (by omega) fk4)))).symm, S4.nil⟩
        · skip
          refine J.head (.bool false) (congrArg Value.bool (decide_eq_false fk3)) ?_
          refine J.run 6 K17_14 [(2, .bool true)] w3 (by kernel_rfl) ?_
          refine J.ret Tryd.f17 [.bool true] Tryd.func17 ⟨by kernel_rfl, trivial⟩ ?_
          refine hR _ _ ?_
          exact ⟨congrArg Value.bool (validV_yes (by omega) fk1 ((all_getD 0).2 fun j hj => hq j (by omega))).symm, S3.nil⟩
      exact L17_1 _ 0 w2 (by omega) (by omega) (by intro j hj; simp at hj) S2 rfl
    · skip
      refine J.head (.bool true) (congrArg Value.bool (bne_iff_ne.2 fk2)) ?_
      refine J.run 5 K17_15 [(2, .bool false)] w2 (by kernel_rfl) ?_
      refine J.ret Tryd.f17 [.bool false] Tryd.func17 ⟨by kernel_rfl, trivial⟩ ?_
      refine hR _ _ ?_
      exact ⟨congrArg Value.bool (validV_no (by first | exact .inr (.inl fk1) | exact .inl (by omega))).symm, S2.nil⟩
  · skip
    refine J.head (.bool true) (congrArg Value.bool (by rw [fk1]; rfl)) ?_
    refine J.run 14 K17_16 [(2, .bool false)] w2 (by kernel_rfl) ?_
    refine J.ret Tryd.f17 [.bool false] Tryd.func17 ⟨by kernel_rfl, trivial⟩ ?_
    refine hR _ _ ?_
    exact ⟨congrArg Value.bool (validV_no (by first | exact .inr (.inl fk1) | exact .inl (by omega))).symm, S2.nil⟩

theorem ne_getD {l : List Int} {a b : Nat} (h : l.getD a 0 ≠ l.getD b 0) : a ≠ b := fun e => h (by rw [e])
theorem hb22 : HasBody Tryd.prog 22 := fun _ _ => by kernel_rfl
noncomputable def K22_0 : List Item := adv 2 [] (bodyOf Tryd.f22)
noncomputable def K22_1 : List Item := adv 5 [] (popK K22_0)
noncomputable def K22_2 : List Item := adv 8 [] (popK K22_1)
noncomputable def K22_3 : List Item := adv 2 [] (popK (popK (popK K22_2)))
noncomputable def K22_4 : List Item := adv 4 [true] K22_3
noncomputable def K22_5 : List Item := adv 2 [] (popK (popK (popK K22_4)))
noncomputable def K22_6 : List Item := adv 7 [false] K22_3
noncomputable def K22_7 : List Item := adv 2 [] (popK K22_6)
noncomputable def K22_8 : List Item := adv 2 [] (popK (popK K22_7))
noncomputable def K22_9 : List Item := adv 4 [true] K22_8
noncomputable def K22_10 : List Item := adv 2 [] (popK K22_9)
noncomputable def K22_11 : List Item := adv 2 [] (popK (popK K22_10))
noncomputable def K22_12 : List Item := adv 9 [false] K22_8
noncomputable def K22_13 : List Item := adv 4 [] K22_12
noncomputable def K22_14 : List Item := adv 2 [] (popK K22_13)
noncomputable def K22_15 : List Item := adv 3 [] (popK (popK K22_14))
noncomputable def K22_16 : List Item := adv 6 [true] K22_15
noncomputable def K22_17 : List Item := adv 3 [false] K22_15
set_option maxRecDepth 20000 in
set_option maxHeartbeats 20000000 in
theorem rcAt_any (c : Crv) (x : Int) (w : World) (hc : crvQ w c) (hv : validV c = true) : Ret Tryd.prog 22 #[.agg #[.slice c.gX_a c.gX_n c.gX_c, .slice c.gY_a c.gY_n c.gY_c], .int .i64 x] w (fun v w' => v = .int .i64 (valueV c x) ∧ Sep w [] w') := by
  have S0 := Sep.refl w
  refine Ret.named fun R hR => ?_
  refine Ret.of_J (N := 83) [(0, .agg #[.slice c.gX_a c.gX_n c.gX_c, .slice c.gY_a c.gY_n c.gY_c]), (1, .int .i64 x)] Tryd.func22 rfl rfl (Nat.le_of_ble_eq_true (by kernel_rfl)) (by kernel_rfl) ?_
  obtain ⟨q1, q2, q3, q4, q5, q6, _⟩ := id hc
  have ql1 := q2.len_eq
  have ql2 := q5.len_eq
  obtain ⟨hv1, hv2, hv3⟩ := validV_facts hv
  obtain ⟨hx1, hx2, hx3⟩ := axis_facts hv2
  have hX : c.gX_l.length = c.gX_n := by omega
  have hY : c.gY_l.length = c.gX_n := by omega
  have hxm := axis_mono hv2 (show 0 < ((c.gX_n : Int) - 1).toNat by omega) (by omega)
  have hx0 := hx2 0 (by omega)
  have hxl := hx2 ((c.gX_n : Int) - 1).toNat (by omega)
  refine J.run 2 K22_0 [(0, .agg #[.slice c.gX_a c.gX_n c.gX_c, .slice c.gY_a c.gY_n c.gY_c]), (1, .int .i64 x)] w (by kernel_rfl) ?_
  refine J.new S0 2 [.slice c.gX_a c.gX_n c.gX_c, .slice c.gY_a c.gY_n c.gY_c] 24 (by kernel_rfl) ?_
  intro b1 w1 S1
  refine J.run 5 K22_1 [(7, .pointer (some ⟨b1, 0, none⟩)), (2, .pointer (some ⟨b1, 0, none⟩)), (1, .int .i64 x)] w1 (by kernel_rfl) ?_
  refine J.ok (OK.ldBox S1 0 8 22 0 (.slice c.gX_a c.gX_n c.gX_c) (by kernel_rfl) rfl (by kernel_rfl)) ?_
  refine J.run 8 K22_2 [(11, .pointer (some ⟨b1, 0, none⟩)), (10, .int .i64 x), (5, .int .i64 (c.gX_n : Int)), (2, .pointer (some ⟨b1, 0, none⟩)), (1, .int .i64 x)] w1 (by kernel_rfl) ?_
  refine J.ok (OK.ldBox S1 0 12 22 0 (.slice c.gX_a c.gX_n c.gX_c) (by kernel_rfl) rfl (by kernel_rfl)) ?_
  obtain ⟨p1, hp1, hc1⟩ := q2.at 0 0 (by omega)
  have hel1 := getD_Q q3 0 (n := 0) (by have := q2.len_eq; omega)
  refine J.ok (OK.index 13 22 1 c.gX_a p1 c.gX_n 0 0 (p1.add 0) (by kernel_rfl) (by kernel_rfl) hp1 (by omega) (by omega) (by rw [Nat.mul_one])) ?_
  refine J.ok (OK.ldCell 14 3 (p1.add 0) (.int .i64 (c.gX_l.getD 0 0)) (by kernel_rfl) (by kernel_rfl) (S1.cell hc1)) ?_
  refine J.run 2 K22_3 [(15, .bool (decide (x ≤ (c.gX_l.getD 0 0)))), (5, .int .i64 (c.gX_n : Int)), (2, .pointer (some ⟨b1, 0, none⟩)), (1, .int .i64 x)] w1 (by kernel_rfl) ?_
  by_cases fk1 : x ≤ (c.gX_l.getD 0 0)
  · skip
    refine J.head (.bool true) (congrArg Value.bool (decide_eq_true fk1)) ?_
    refine J.run 4 K22_4 [(16, .pointer (some ⟨b1, 1, none⟩))] w1 (by kernel_rfl) ?_
    refine J.ok (OK.ldBox S1 0 17 22 1 (.slice c.gY_a c.gY_n c.gY_c) (by kernel_rfl) rfl (by kernel_rfl)) ?_
    obtain ⟨p2, hp2, hc2⟩ := q5.at 0 0 (by omega)
    have hel2 := getD_Q q6 0 (n := 0) (by have := q5.len_eq; omega)
    refine J.ok (OK.index 18 22 1 c.gY_a p2 c.gY_n 0 0 (p2.add 0) (by kernel_rfl) (by kernel_rfl) hp2 (by omega) (by omega) (by rw [Nat.mul_one])) ?_
    refine J.ok (OK.ldCell 19 3 (p2.add 0) (.int .i64 (c.gY_l.getD 0 0)) (by kernel_rfl) (by kernel_rfl) (S1.cell hc2)) ?_
    refine J.run 2 K22_5 [(4, .int .i64 (c.gY_l.getD 0 0))] w1 (by kernel_rfl) ?_
    refine J.ret Tryd.f22 [.int .i64 (c.gY_l.getD 0 0)] Tryd.func22 ⟨by kernel_rfl, trivial⟩ ?_
    refine hR _ _ ?_
    exact ⟨congrArg (Value.int .i64) (by unfold valueV curveF; first | rw [if_pos (by omega)] | (rw [if_neg (by omega), if_pos (by rw [show c.gX_l.length - 1 = ((c.gX_n : Int) - 1).toNat by omega]; omega), show c.gX_l.length - 1 = ((c.gX_n : Int) - 1).toNat by omega])), S1.nil⟩
  · skip
    refine J.head (.bool false) (congrArg Value.bool (decide_eq_false fk1)) ?_
    refine J.run 7 K22_6 [(21, .pointer (some ⟨b1, 0, none⟩)), (20, .int .i64 x), (5, .int .i64 (c.gX_n : Int)), (2, .pointer (some ⟨b1, 0, none⟩)), (1, .int .i64 x)] w1 (by kernel_rfl) ?_
    refine J.ok (OK.ldBox S1 0 22 22 0 (.slice c.gX_a c.gX_n c.gX_c) (by kernel_rfl) rfl (by kernel_rfl)) ?_
    refine J.run 2 K22_7 [(24, .int .i64 (IntKind.wrap .i64 ((c.gX_n : Int) - 1))), (22, .slice c.gX_a c.gX_n c.gX_c), (20, .int .i64 x), (5, .int .i64 (c.gX_n : Int)), (2, .pointer (some ⟨b1, 0, none⟩)), (1, .int .i64 x)] w1 (by kernel_rfl) ?_
    refine J.head (.int .i64 ((c.gX_n : Int) - 1)) (congrArg (Value.int .i64) (IntWalk.i64_in _ (by omega))) ?_
    obtain ⟨p3, hp3, hc3⟩ := q2.at 0 ((c.gX_n : Int) - 1).toNat (by omega)
    have hel3 := getD_Q q3 0 (n := ((c.gX_n : Int) - 1).toNat) (by have := q2.len_eq; omega)
    refine J.ok (OK.index 25 22 1 c.gX_a p3 c.gX_n ((c.gX_n : Int) - 1).toNat ((c.gX_n : Int) - 1) (p3.add ((c.gX_n : Int) - 1).toNat) (by kernel_rfl) (by kernel_rfl) hp3 (by omega) (by omega) (by rw [Nat.mul_one])) ?_
    refine J.ok (OK.ldCell 26 3 (p3.add ((c.gX_n : Int) - 1).toNat) (.int .i64 (c.gX_l.getD ((c.gX_n : Int) - 1).toNat 0)) (by kernel_rfl) (by kernel_rfl) (S1.cell hc3)) ?_
    refine J.run 2 K22_8 [(27, .bool (decide (x ≥ (c.gX_l.getD ((c.gX_n : Int) - 1).toNat 0)))), (5, .int .i64 (c.gX_n : Int)), (2, .pointer (some ⟨b1, 0, none⟩)), (1, .int .i64 x)] w1 (by kernel_rfl) ?_
    by_cases fk2 : x ≥ (c.gX_l.getD ((c.gX_n : Int) - 1).toNat 0)
    · skip
      refine J.head (.bool true) (congrArg Value.bool (decide_eq_true fk2)) ?_
      refine J.run 4 K22_9 [(28, .pointer (some ⟨b1, 1, none⟩)), (5, .int .i64 (c.gX_n : Int))] w1 (by kernel_rfl) ?_
      refine J.ok (OK.ldBox S1 0 29 22 1 (.slice c.gY_a c.gY_n c.gY_c) (by kernel_rfl) rfl (by kernel_rfl)) ?_
      refine J.run 2 K22_10 [(31, .int .i64 (IntKind.wrap .i64 ((c.gX_n : Int) - 1))), (29, .slice c.gY_a c.gY_n c.gY_c)] w1 (by kernel_rfl) ?_
      refine J.head (.int .i64 ((c.gX_n : Int) - 1)) (congrArg (Value.int .i64) (IntWalk.i64_in _ (by omega))) ?_
      obtain ⟨p4, hp4, hc4⟩ := q5.at 0 ((c.gX_n : Int) - 1).toNat (by omega)
      have hel4 := getD_Q q6 0 (n := ((c.gX_n : Int) - 1).toNat) (by have := q5.len_eq; omega)
      refine J.ok (OK.index 32 22 1 c.gY_a p4 c.gY_n ((c.gX_n : Int) - 1).toNat ((c.gX_n : Int) - 1) (p4.add ((c.gX_n : Int) - 1).toNat) (by kernel_rfl) (by kernel_rfl) hp4 (by omega) (by omega) (by rw [Nat.mul_one])) ?_
      refine J.ok (OK.ldCell 33 3 (p4.add ((c.gX_n : Int) - 1).toNat) (.int .i64 (c.gY_l.getD ((c.gX_n : Int) - 1).toNat 0)) (by kernel_rfl) (by kernel_rfl) (S1.cell hc4)) ?_
      refine J.run 2 K22_11 [(4, .int .i64 (c.gY_l.getD ((c.gX_n : Int) - 1).toNat 0))] w1 (by kernel_rfl) ?_
      refine J.ret Tryd.f22 [.int .i64 (c.gY_l.getD ((c.gX_n : Int) - 1).toNat 0)] Tryd.func22 ⟨by kernel_rfl, trivial⟩ ?_
      refine hR _ _ ?_
      exact ⟨congrArg (Value.int .i64) (by unfold valueV curveF; first | rw [if_pos (by omega)] | (rw [if_neg (by omega), if_pos (by rw [show c.gX_l.length - 1 = ((c.gX_n : Int) - 1).toNat by omega]; omega), show c.gX_l.length - 1 = ((c.gX_n : Int) - 1).toNat by omega])), S1.nil⟩
    · skip
      refine J.head (.bool false) (congrArg Value.bool (decide_eq_false fk2)) ?_
      refine J.run 9 K22_12 [(6, .int .i64 0), (2, .pointer (some ⟨b1, 0, none⟩)), (1, .int .i64 x)] w1 (by kernel_rfl) ?_
      have L22_1 : ∀ (mm_ : Nat) (i : Int) (w2 : World), (0 ≤ i ∧ i + 1 < (c.gX_n : Int)) → (c.gX_l.getD (i).toNat 0 ≤ x) → Sep w [box b1 [.slice c.gX_a c.gX_n c.gX_c, .slice c.gY_a c.gY_n c.gY_c] 24] w2 → ((c.gX_n : Int) - i).toNat = mm_ → J Tryd.prog 22 83 R K22_12 [(6, .int .i64 i), (2, .pointer (some ⟨b1, 0, none⟩)), (1, .int .i64 x)] w2 := by
        intro mm1
        induction mm1 using Nat.strongRecOn with
        | _ mm1 ih1 =>
        intro i w2 h0 hle S2 hm1
        refine J.run 4 K22_13 [(34, .pointer (some ⟨b1, 0, none⟩)), (6, .int .i64 i), (2, .pointer (some ⟨b1, 0, none⟩)), (1, .int .i64 x)] w2 (by kernel_rfl) ?_
        refine J.ok (OK.ldBox S2 0 35 22 0 (.slice c.gX_a c.gX_n c.gX_c) (by kernel_rfl) rfl (by kernel_rfl)) ?_
        refine J.run 2 K22_14 [(37, .int .i64 (IntKind.wrap .i64 (i + 1))), (35, .slice c.gX_a c.gX_n c.gX_c), (6, .int .i64 i), (2, .pointer (some ⟨b1, 0, none⟩)), (1, .int .i64 x)] w2 (by kernel_rfl) ?_
        refine J.head (.int .i64 (i + 1)) (congrArg (Value.int .i64) (IntWalk.i64_in _ (by omega))) ?_
        obtain ⟨p5, hp5, hc5⟩ := q2.at 0 (i + 1).toNat (by omega)
        have hel5 := getD_Q q3 0 (n := (i + 1).toNat) (by have := q2.len_eq; omega)
        refine J.ok (OK.index 38 22 1 c.gX_a p5 c.gX_n (i + 1).toNat (i + 1) (p5.add (i + 1).toNat) (by kernel_rfl) (by kernel_rfl) hp5 (by omega) (by omega) (by rw [Nat.mul_one])) ?_
        refine J.ok (OK.ldCell 39 3 (p5.add (i + 1).toNat) (.int .i64 (c.gX_l.getD (i + 1).toNat 0)) (by kernel_rfl) (by kernel_rfl) (S2.cell hc5)) ?_
        refine J.run 3 K22_15 [(41, .bool (decide ((c.gX_l.getD (i + 1).toNat 0) ≤ x))), (6, .int .i64 i), (2, .pointer (some ⟨b1, 0, none⟩)), (1, .int .i64 x)] w2 (by kernel_rfl) ?_
        by_cases fk3 : (c.gX_l.getD (i + 1).toNat 0) ≤ x
        · skip
          refine J.head (.bool true) (congrArg Value.bool (decide_eq_true fk3)) ?_
          refine J.run 6 K22_16 [(43, .int .i64 (IntKind.wrap .i64 (i + 1))), (2, .pointer (some ⟨b1, 0, none⟩)), (1, .int .i64 x)] w2 (by kernel_rfl) ?_
          refine J.head (.int .i64 (i + 1)) (congrArg (Value.int .i64) (IntWalk.i64_in _ (by omega))) ?_
          refine J.run 4 K22_12 [(6, .int .i64 (i + 1)), (2, .pointer (some ⟨b1, 0, none⟩)), (1, .int .i64 x)] w2 (by kernel_rfl) ?_
          refine J.run 0 K22_12 [(6, .int .i64 (i + 1)), (2, .pointer (some ⟨b1, 0, none⟩)), (1, .int .i64 x)] w2 (by kernel_rfl) ?_
          exact ih1 _ (show ((c.gX_n : Int) - (i + 1)).toNat < mm1 from by omega) (i + 1) w2 (⟨by omega, by have h_ := ne_getD (l := c.gX_l) (a := (i + 1).toNat) (b := ((c.gX_n : Int) - 1).toNat) (by omega); omega⟩) (by omega) S2 rfl
        · skip
          refine J.head (.bool false) (congrArg Value.bool (decide_eq_false fk3)) ?_
          have hA3 := axis_mono hv2 (show (i).toNat < (i + 1).toNat by omega) (by omega)
          have hA1 := hx2 (i).toNat (by omega)
          have hA2 := hx2 (i + 1).toNat (by omega)
          have hB1 := hv3 (i).toNat (by omega)
          have hB2 := hv3 (i + 1).toNat (by omega)
          have hpb := prod_bd (t := x - c.gX_l.getD (i).toNat 0) (k := c.gY_l.getD (i + 1).toNat 0 - c.gY_l.getD (i).toNat 0) (by omega) (by omega)
          have hbw := btw_bounds (x0 := c.gX_l.getD (i).toNat 0) (x1 := c.gX_l.getD (i + 1).toNat 0) (y0 := c.gY_l.getD (i).toNat 0) (y1 := c.gY_l.getD (i + 1).toNat 0) (x := x) (by omega) (by omega) (by omega)
          unfold btwF at hbw
          refine J.run 3 K22_17 [(6, .int .i64 i), (2, .pointer (some ⟨b1, 0, none⟩)), (1, .int .i64 x)] w2 (by kernel_rfl) ?_
          obtain ⟨p6, hp6, hc6⟩ := q5.at 0 (i).toNat (by omega)
          have hel6 := getD_Q q6 0 (n := (i).toNat) (by have := q5.len_eq; omega)
          obtain ⟨p7, hp7, hc7⟩ := q2.at 0 (i).toNat (by omega)
          have hel7 := getD_Q q3 0 (n := (i).toNat) (by have := q2.len_eq; omega)
          obtain ⟨p8, hp8, hc8⟩ := q5.at 0 (i + 1).toNat (by omega)
          have hel8 := getD_Q q6 0 (n := (i + 1).toNat) (by have := q5.len_eq; omega)
          refine J.drawPlan (fun w_ => Sep w [box b1 [.slice c.gX_a c.gX_n c.gX_c, .slice c.gY_a c.gY_n c.gY_c] 24] w_) [(0, true), (1, true), (2, true), (3, true), (4, true), (5, true), (6, true), (7, true), (8, true), (9, true), (10, true), (11, true), (12, true), (13, true), (14, true), (15, true), (16, true), (17, true), (18, true), (19, true), (20, true), (21, true), (22, true), (23, true), (24, true), (25, true), (26, true), (27, true), (28, true), (29, true), (30, true), (31, true), (32, true), (33, true), (34, true), (35, true), (36, true), (37, false), (38, true), (39, true)] S2 Tryd.mixed (by kernel_rfl) (planOK_of (T := [(0, some 44, 4), (1, some 45, 17592186044416), (0, some 46, 64), (6, some 47, 105553116266496), (8, some 48, 140737488355328), (0, some 49, 2), (0, some 50, 4), (64, some 51, 1125899906842624), (0, some 52, 64), (384, some 53, 6755399441055744), (512, some 54, 9007199254740992), (1056, some 55, 18577348462903296), (0, some 56, 4), (4096, some 57, 72057594037927936), (0, some 58, 64), (16384, some 59, 288230376151711744), (40960, some 60, 720575940379279360), (65536, some 61, 1152921504606846976), (0, some 62, 4), (262144, some 63, 4611686018427387904), (0, some 64, 64), (1572864, some 65, 27670116110564327424), (2097152, some 66, 36893488147419103232), (4325376, some 67, 76092819304051900416), (8390656, some 68, 147609981386695376896), (0, some 69, 4), (33554432, some 70, 590295810358705651712), (0, some 71, 64), (134217728, some 72, 2361183241434822606848), (335544320, some 73, 5902958103587056517120), (536870912, some 74, 9444732965739290427392), (0, some 75, 4), (2147483648, some 76, 37778931862957161709568), (0, some 77, 64), (12884901888, some 78, 226673591177742970257408), (17179869184, some 79, 302231454903657293676544), (35433480192, some 80, 623352375738793168207872), (68736253952, some 81, 1209220967519808527532032), (137438953488, some 82, 2417851639510733326123008), (549755813887, some 4, 4835703278458516698824704)]) (by kernel_rfl) (by kernel_rfl)) ?_
          intro w3 S3
          refine PB.mk (S3.sub (.cons_cons _ (.slnil))) ?_
          refine PL.take 0 44 (.pointer (some ⟨b1, 1, none⟩)) (fun _ _ => by kernel_rfl) ?_
          refine PL.takeOK 1 (fun w_ S_ => OK.ldBox S_ 0 45 22 1 (.slice c.gY_a c.gY_n c.gY_c) (by kernel_rfl) rfl (by kernel_rfl)) rfl ?_
          refine PL.take 2 46 (.int .i64 i) (fun _ _ => by kernel_rfl) ?_
          refine PL.takeOK 3 (fun w_ S_ => OK.index 47 22 1 c.gY_a p6 c.gY_n (i).toNat i (p6.add (i).toNat) (by kernel_rfl) (by kernel_rfl) hp6 (by omega) (by omega) (by rw [Nat.mul_one])) rfl ?_
          refine PL.takeOK 4 (fun w_ S_ => OK.ldCell 48 3 (p6.add (i).toNat) (.int .i64 (c.gY_l.getD (i).toNat 0)) (by kernel_rfl) (by kernel_rfl) (S_.cell hc6)) rfl ?_
          refine PL.take 5 49 (.int .i64 x) (fun _ _ => by kernel_rfl) ?_
          refine PL.take 6 50 (.pointer (some ⟨b1, 0, none⟩)) (fun _ _ => by kernel_rfl) ?_
          refine PL.takeOK 7 (fun w_ S_ => OK.ldBox S_ 0 51 22 0 (.slice c.gX_a c.gX_n c.gX_c) (by kernel_rfl) rfl (by kernel_rfl)) rfl ?_
          refine PL.take 8 52 (.int .i64 i) (fun _ _ => by kernel_rfl) ?_
          refine PL.takeOK 9 (fun w_ S_ => OK.index 53 22 1 c.gX_a p7 c.gX_n (i).toNat i (p7.add (i).toNat) (by kernel_rfl) (by kernel_rfl) hp7 (by omega) (by omega) (by rw [Nat.mul_one])) rfl ?_
          refine PL.takeOK 10 (fun w_ S_ => OK.ldCell 54 3 (p7.add (i).toNat) (.int .i64 (c.gX_l.getD (i).toNat 0)) (by kernel_rfl) (by kernel_rfl) (S_.cell hc7)) rfl ?_
          refine PL.take 11 55 (.int .i64 (IntKind.wrap .i64 (x - (c.gX_l.getD (i).toNat 0)))) (fun _ _ => by kernel_rfl) ?_
          refine PL.head (.int .i64 (x - (c.gX_l.getD (i).toNat 0))) (congrArg (Value.int .i64) (IntWalk.i64_in _ (by omega))) ?_
          refine PL.take 12 56 (.pointer (some ⟨b1, 1, none⟩)) (fun _ _ => by kernel_rfl) ?_
          refine PL.takeOK 13 (fun w_ S_ => OK.ldBox S_ 0 57 22 1 (.slice c.gY_a c.gY_n c.gY_c) (by kernel_rfl) rfl (by kernel_rfl)) rfl ?_
          refine PL.take 14 58 (.int .i64 i) (fun _ _ => by kernel_rfl) ?_
          refine PL.take 15 59 (.int .i64 (IntKind.wrap .i64 (i + 1))) (fun _ _ => by kernel_rfl) ?_
          refine PL.head (.int .i64 (i + 1)) (congrArg (Value.int .i64) (IntWalk.i64_in _ (by omega))) ?_
          refine PL.takeOK 16 (fun w_ S_ => OK.index 60 22 1 c.gY_a p8 c.gY_n (i + 1).toNat (i + 1) (p8.add (i + 1).toNat) (by kernel_rfl) (by kernel_rfl) hp8 (by omega) (by omega) (by rw [Nat.mul_one])) rfl ?_
          refine PL.takeOK 17 (fun w_ S_ => OK.ldCell 61 3 (p8.add (i + 1).toNat) (.int .i64 (c.gY_l.getD (i + 1).toNat 0)) (by kernel_rfl) (by kernel_rfl) (S_.cell hc8)) rfl ?_
          refine PL.take 18 62 (.pointer (some ⟨b1, 1, none⟩)) (fun _ _ => by kernel_rfl) ?_
          refine PL.takeOK 19 (fun w_ S_ => OK.ldBox S_ 0 63 22 1 (.slice c.gY_a c.gY_n c.gY_c) (by kernel_rfl) rfl (by kernel_rfl)) rfl ?_
          refine PL.take 20 64 (.int .i64 i) (fun _ _ => by kernel_rfl) ?_
          refine PL.takeOK 21 (fun w_ S_ => OK.index 65 22 1 c.gY_a p6 c.gY_n (i).toNat i (p6.add (i).toNat) (by kernel_rfl) (by kernel_rfl) hp6 (by omega) (by omega) (by rw [Nat.mul_one])) rfl ?_
          refine PL.takeOK 22 (fun w_ S_ => OK.ldCell 66 3 (p6.add (i).toNat) (.int .i64 (c.gY_l.getD (i).toNat 0)) (by kernel_rfl) (by kernel_rfl) (S_.cell hc6)) rfl ?_
          refine PL.take 23 67 (.int .i64 (IntKind.wrap .i64 ((c.gY_l.getD (i + 1).toNat 0) - (c.gY_l.getD (i).toNat 0)))) (fun _ _ => by kernel_rfl) ?_
          refine PL.head (.int .i64 ((c.gY_l.getD (i + 1).toNat 0) - (c.gY_l.getD (i).toNat 0))) (congrArg (Value.int .i64) (IntWalk.i64_in _ (by omega))) ?_
          refine PL.take 24 68 (.int .i64 (IntKind.wrap .i64 ((x - (c.gX_l.getD (i).toNat 0)) * ((c.gY_l.getD (i + 1).toNat 0) - (c.gY_l.getD (i).toNat 0))))) (fun _ _ => by kernel_rfl) ?_
          refine PL.head (.int .i64 ((x - (c.gX_l.getD (i).toNat 0)) * ((c.gY_l.getD (i + 1).toNat 0) - (c.gY_l.getD (i).toNat 0)))) (congrArg (Value.int .i64) (IntWalk.i64_in _ (by omega))) ?_
          refine PL.take 25 69 (.pointer (some ⟨b1, 0, none⟩)) (fun _ _ => by kernel_rfl) ?_
          refine PL.takeOK 26 (fun w_ S_ => OK.ldBox S_ 0 70 22 0 (.slice c.gX_a c.gX_n c.gX_c) (by kernel_rfl) rfl (by kernel_rfl)) rfl ?_
          refine PL.take 27 71 (.int .i64 i) (fun _ _ => by kernel_rfl) ?_
          refine PL.take 28 72 (.int .i64 (IntKind.wrap .i64 (i + 1))) (fun _ _ => by kernel_rfl) ?_
          refine PL.head (.int .i64 (i + 1)) (congrArg (Value.int .i64) (IntWalk.i64_in _ (by omega))) ?_
          refine PL.takeOK 29 (fun w_ S_ => OK.index 73 22 1 c.gX_a p5 c.gX_n (i + 1).toNat (i + 1) (p5.add (i + 1).toNat) (by kernel_rfl) (by kernel_rfl) hp5 (by omega) (by omega) (by rw [Nat.mul_one])) rfl ?_
          refine PL.takeOK 30 (fun w_ S_ => OK.ldCell 74 3 (p5.add (i + 1).toNat) (.int .i64 (c.gX_l.getD (i + 1).toNat 0)) (by kernel_rfl) (by kernel_rfl) (S_.cell hc5)) rfl ?_
          refine PL.take 31 75 (.pointer (some ⟨b1, 0, none⟩)) (fun _ _ => by kernel_rfl) ?_
          refine PL.takeOK 32 (fun w_ S_ => OK.ldBox S_ 0 76 22 0 (.slice c.gX_a c.gX_n c.gX_c) (by kernel_rfl) rfl (by kernel_rfl)) rfl ?_
          refine PL.take 33 77 (.int .i64 i) (fun _ _ => by kernel_rfl) ?_
          refine PL.takeOK 34 (fun w_ S_ => OK.index 78 22 1 c.gX_a p7 c.gX_n (i).toNat i (p7.add (i).toNat) (by kernel_rfl) (by kernel_rfl) hp7 (by omega) (by omega) (by rw [Nat.mul_one])) rfl ?_
          refine PL.takeOK 35 (fun w_ S_ => OK.ldCell 79 3 (p7.add (i).toNat) (.int .i64 (c.gX_l.getD (i).toNat 0)) (by kernel_rfl) (by kernel_rfl) (S_.cell hc7)) rfl ?_
          refine PL.take 36 80 (.int .i64 (IntKind.wrap .i64 ((c.gX_l.getD (i + 1).toNat 0) - (c.gX_l.getD (i).toNat 0)))) (fun _ _ => by kernel_rfl) ?_
          refine PL.head (.int .i64 ((c.gX_l.getD (i + 1).toNat 0) - (c.gX_l.getD (i).toNat 0))) (congrArg (Value.int .i64) (IntWalk.i64_in _ (by omega))) ?_
          refine PL.callF 81 38 #[.int .i64 ((x - (c.gX_l.getD (i).toNat 0)) * ((c.gY_l.getD (i + 1).toNat 0) - (c.gY_l.getD (i).toNat 0))), .int .i64 ((c.gX_l.getD (i + 1).toNat 0) - (c.gX_l.getD (i).toNat 0))] hb38 (by kernel_rfl) (rfloor_any ((x - (c.gX_l.getD (i).toNat 0)) * ((c.gY_l.getD (i + 1).toNat 0) - (c.gY_l.getD (i).toNat 0))) ((c.gX_l.getD (i + 1).toNat 0) - (c.gX_l.getD (i).toNat 0)) _ (by omega) (by omega)) ?_
          rintro _ w4 ⟨rfl, T1⟩
          have S4 : Sep w [box b1 [.slice c.gX_a c.gX_n c.gX_c, .slice c.gY_a c.gY_n c.gY_c] 24] w4 := S3.trans T1
          clear T1 S3
          refine PB.head (.int .i64 (((x - (c.gX_l.getD (i).toNat 0)) * ((c.gY_l.getD (i + 1).toNat 0) - (c.gY_l.getD (i).toNat 0))) / ((c.gX_l.getD (i + 1).toNat 0) - (c.gX_l.getD (i).toNat 0)))) (congrArg (Value.int .i64) (floor_pos (by omega) (by omega))) ?_
          refine PB.mk (S4.sub (.cons_cons _ (.slnil))) ?_
          refine PL.take 38 82 (.int .i64 (IntKind.wrap .i64 ((c.gY_l.getD (i).toNat 0) + (((x - (c.gX_l.getD (i).toNat 0)) * ((c.gY_l.getD (i + 1).toNat 0) - (c.gY_l.getD (i).toNat 0))) / ((c.gX_l.getD (i + 1).toNat 0) - (c.gX_l.getD (i).toNat 0)))))) (fun _ _ => by kernel_rfl) ?_
          refine PL.head (.int .i64 ((c.gY_l.getD (i).toNat 0) + (((x - (c.gX_l.getD (i).toNat 0)) * ((c.gY_l.getD (i + 1).toNat 0) - (c.gY_l.getD (i).toNat 0))) / ((c.gX_l.getD (i + 1).toNat 0) - (c.gX_l.getD (i).toNat 0))))) (congrArg (Value.int .i64) (IntWalk.i64_in _ (by omega))) ?_
          refine PL.take 39 4 (.int .i64 ((c.gY_l.getD (i).toNat 0) + (((x - (c.gX_l.getD (i).toNat 0)) * ((c.gY_l.getD (i + 1).toNat 0) - (c.gY_l.getD (i).toNat 0))) / ((c.gX_l.getD (i + 1).toNat 0) - (c.gX_l.getD (i).toNat 0))))) (fun _ _ => by kernel_rfl) ?_
          refine PL.done ?_
          refine J.run 0 (rRest K22_17) [(4, .int .i64 ((c.gY_l.getD (i).toNat 0) + (((x - (c.gX_l.getD (i).toNat 0)) * ((c.gY_l.getD (i + 1).toNat 0) - (c.gY_l.getD (i).toNat 0))) / ((c.gX_l.getD (i + 1).toNat 0) - (c.gX_l.getD (i).toNat 0)))))] w4 (by kernel_rfl) ?_
          refine J.ret Tryd.f22 [.int .i64 ((c.gY_l.getD (i).toNat 0) + (((x - (c.gX_l.getD (i).toNat 0)) * ((c.gY_l.getD (i + 1).toNat 0) - (c.gY_l.getD (i).toNat 0))) / ((c.gX_l.getD (i + 1).toNat 0) - (c.gX_l.getD (i).toNat 0))))] Tryd.func22 ⟨by kernel_rfl, trivial⟩ ?_
          refine hR _ _ ?_
          have e := curve_mid (ys := c.gY_l) hv2 (x := x) (i := i) ⟨by omega, by rw [show c.gX_l.length - 1 = ((c.gX_n : Int) - 1).toNat by omega]; omega⟩ (by omega) (by omega) (by omega)
          exact ⟨congrArg (Value.int .i64) (by unfold valueV; rw [e]), S4.nil⟩
      exact L22_1 _ 0 w1 (by omega) (by simp only [Int.toNat_zero]; omega) S1 rfl

theorem hb18 : HasBody Tryd.prog 18 := fun _ _ => by kernel_rfl
noncomputable def K18_0 : List Item := adv 2 [] (bodyOf Tryd.f18)
noncomputable def K18_1 : List Item := adv 5 [] (popK K18_0)
noncomputable def K18_2 : List Item := adv 2 [] (popK (popK K18_1))
noncomputable def K18_3 : List Item := adv 11 [false] K18_2
noncomputable def K18_4 : List Item := adv 2 [] (popK K18_3)
noncomputable def K18_5 : List Item := adv 4 [] K18_4
noncomputable def K18_6 : List Item := adv 5 [] K18_5
noncomputable def K18_7 : List Item := adv 10 [true] K18_6
noncomputable def K18_8 : List Item := adv 3 [] (rRest (rRest K18_7))
noncomputable def K18_9 : List Item := adv 3 [] (rRest (rRest K18_7))
noncomputable def K18_10 : List Item := adv 3 [] (rRest (rRest K18_7))
noncomputable def K18_11 : List Item := adv 3 [] (rRest (rRest K18_7))
noncomputable def K18_12 : List Item := adv 9 [false] K18_6
noncomputable def K18_13 : List Item := adv 5 [true] K18_12
noncomputable def K18_14 : List Item := adv 6 [false] K18_12
noncomputable def K18_15 : List Item := adv 5 [true] K18_14
noncomputable def K18_16 : List Item := adv 7 [false] K18_14
noncomputable def K18_17 : List Item := adv 5 [true] K18_2
set_option maxRecDepth 20000 in
set_option maxHeartbeats 20000000 in
theorem cdir_any (c : Crv) (w : World) (hc : crvQ w c) : Ret Tryd.prog 18 #[.agg #[.slice c.gX_a c.gX_n c.gX_c, .slice c.gY_a c.gY_n c.gY_c]] w (fun v w' => v = .int .i64 (dirV c) ∧ Sep w [] w') := by
  have S0 := Sep.refl w
  refine Ret.named fun R hR => ?_
  refine Ret.of_J (N := 51) [(0, .agg #[.slice c.gX_a c.gX_n c.gX_c, .slice c.gY_a c.gY_n c.gY_c])] Tryd.func18 rfl rfl (Nat.le_of_ble_eq_true (by kernel_rfl)) (by kernel_rfl) ?_
  obtain ⟨q1, q2, q3, q4, q5, q6, _⟩ := id hc
  have ql1 := q2.len_eq
  have ql2 := q5.len_eq
  refine J.run 2 K18_0 [(0, .agg #[.slice c.gX_a c.gX_n c.gX_c, .slice c.gY_a c.gY_n c.gY_c])] w (by kernel_rfl) ?_
  refine J.new S0 1 [.slice c.gX_a c.gX_n c.gX_c, .slice c.gY_a c.gY_n c.gY_c] 24 (by kernel_rfl) ?_
  intro b1 w1 S1
  refine J.run 5 K18_1 [(1, .pointer (some ⟨b1, 0, none⟩))] w1 (by kernel_rfl) ?_
  refine J.ok (OK.ldBox S1 0 6 24 0 (.agg #[.slice c.gX_a c.gX_n c.gX_c, .slice c.gY_a c.gY_n c.gY_c]) (by kernel_rfl) rfl (by kernel_rfl)) ?_
  refine J.callF 7 16 #[.agg #[.slice c.gX_a c.gX_n c.gX_c, .slice c.gY_a c.gY_n c.gY_c]] hb16 (by kernel_rfl) (cvalid_any c _ (crvQ_sep hc S1)) ?_
  rintro _ w2 ⟨rfl, T1⟩
  have S2 : Sep w [box b1 [.slice c.gX_a c.gX_n c.gX_c, .slice c.gY_a c.gY_n c.gY_c] 24] w2 := S1.trans T1
  clear T1 S1
  refine J.run 2 K18_2 [(8, .bool (!(validV c))), (1, .pointer (some ⟨b1, 0, none⟩))] w2 (by kernel_rfl) ?_
  rcases Bool.eq_false_or_eq_true (validV c) with fk1 | fk1
  · skip
    refine J.head (.bool false) (congrArg Value.bool (by rw [fk1]; rfl)) ?_
    have hv := fk1
    obtain ⟨hv1, hv2, hv3⟩ := validV_facts hv
    obtain ⟨hx1, hx2, hx3⟩ := axis_facts hv2
    have hX : c.gX_l.length = c.gX_n := by omega
    have hY : c.gY_l.length = c.gX_n := by omega
    have hxm := axis_mono hv2 (show 0 < ((c.gX_n : Int) - 1).toNat by omega) (by omega)
    have hx0 := hx2 0 (by omega)
    have hxl := hx2 ((c.gX_n : Int) - 1).toNat (by omega)
    have hdv : dirV c = dirL c.gY_l := by unfold dirV; rw [hv]; rfl
    have hyn : ((c.gY_n : Int) - 1).toNat = ((c.gX_n : Int) - 1).toNat := by omega
    refine J.run 11 K18_3 [(9, .pointer (some ⟨b1, 1, none⟩)), (4, .bool true), (3, .bool true), (1, .pointer (some ⟨b1, 0, none⟩))] w2 (by kernel_rfl) ?_
    refine J.ok (OK.ldBox S2 0 10 22 1 (.slice c.gY_a c.gY_n c.gY_c) (by kernel_rfl) rfl (by kernel_rfl)) ?_
    refine J.run 2 K18_4 [(12, .int .i64 (IntKind.wrap .i64 ((c.gY_n : Int) - 1))), (4, .bool true), (3, .bool true), (1, .pointer (some ⟨b1, 0, none⟩))] w2 (by kernel_rfl) ?_
    refine J.head (.int .i64 ((c.gY_n : Int) - 1)) (congrArg (Value.int .i64) (IntWalk.i64_in _ (by omega))) ?_
    refine J.run 4 K18_5 [(13, .int .i64 0), (12, .int .i64 ((c.gY_n : Int) - 1)), (4, .bool true), (3, .bool true), (1, .pointer (some ⟨b1, 0, none⟩))] w2 (by kernel_rfl) ?_
    have L18_1 : ∀ (mm_ : Nat) (up : Bool) (dn : Bool) (i : Int) (w3 : World), (0 ≤ i) → (i + 1 ≤ (c.gY_n : Int)) → (up = upT c.gY_l i) → (dn = dnT c.gY_l i) → Sep w [box b1 [.slice c.gX_a c.gX_n c.gX_c, .slice c.gY_a c.gY_n c.gY_c] 24] w3 → ((c.gY_n : Int) - i).toNat = mm_ → J Tryd.prog 18 51 R K18_5 [(13, .int .i64 i), (12, .int .i64 ((c.gY_n : Int) - 1)), (4, .bool dn), (3, .bool up), (1, .pointer (some ⟨b1, 0, none⟩))] w3 := by
      intro mm1
      induction mm1 using Nat.strongRecOn with
      | _ mm1 ih1 =>
      intro up dn i w3 h0 h1 hup hdn S3 hm1
      refine J.run 5 K18_6 [(14, .bool (decide (i < ((c.gY_n : Int) - 1)))), (13, .int .i64 i), (12, .int .i64 ((c.gY_n : Int) - 1)), (4, .bool dn), (3, .bool up), (1, .pointer (some ⟨b1, 0, none⟩))] w3 (by kernel_rfl) ?_
      by_cases fk2 : i < ((c.gY_n : Int) - 1)
      · skip
        refine J.head (.bool true) (congrArg Value.bool (decide_eq_true fk2)) ?_
        refine J.run 10 K18_7 [(5, .int .i64 i), (13, .int .i64 i), (12, .int .i64 ((c.gY_n : Int) - 1)), (4, .bool dn), (3, .bool up), (1, .pointer (some ⟨b1, 0, none⟩))] w3 (by kernel_rfl) ?_
        rcases Bool.eq_false_or_eq_true up with fk3 | fk3
        · skip
          obtain ⟨p1, hp1, hc1⟩ := q5.at 0 (i).toNat (by omega)
          have hel1 := getD_Q q6 0 (n := (i).toNat) (by have := q5.len_eq; omega)
          obtain ⟨p2, hp2, hc2⟩ := q5.at 0 (i + 1).toNat (by omega)
          have hel2 := getD_Q q6 0 (n := (i + 1).toNat) (by have := q5.len_eq; omega)
          refine J.drawStill S3 16 Tryd.mixed (by kernel_rfl) (by kernel_rfl) (by kernel_rfl) ?_
          intro w4 S4
          refine SL.ok (by decide) (OK.run 16 (.bool up) (by kernel_rfl)) ?_
          refine SL.head (.bool true) (congrArg Value.bool fk3) ?_
          refine SL.ok (by decide) (OK.run 17 (.bool true) (by kernel_rfl)) ?_
          refine SL.ok (by decide) (OK.run 18 (.pointer (some ⟨b1, 1, none⟩)) (by kernel_rfl)) ?_
          refine SL.ok (by decide) (OK.ldBox S4 0 19 22 1 (.slice c.gY_a c.gY_n c.gY_c) (by kernel_rfl) rfl (by kernel_rfl)) ?_
          refine SL.ok (by decide) (OK.run 20 (.int .i64 i) (by kernel_rfl)) ?_
          refine SL.ok (by decide) (OK.index 21 22 1 c.gY_a p1 c.gY_n (i).toNat i (p1.add (i).toNat) (by kernel_rfl) (by kernel_rfl) hp1 (by omega) (by omega) (by rw [Nat.mul_one])) ?_
          refine SL.ok (by decide) (OK.ldCell 22 3 (p1.add (i).toNat) (.int .i64 (c.gY_l.getD (i).toNat 0)) (by kernel_rfl) (by kernel_rfl) (S4.cell hc1)) ?_
          refine SL.ok (by decide) (OK.run 23 (.pointer (some ⟨b1, 1, none⟩)) (by kernel_rfl)) ?_
          refine SL.ok (by decide) (OK.ldBox S4 0 24 22 1 (.slice c.gY_a c.gY_n c.gY_c) (by kernel_rfl) rfl (by kernel_rfl)) ?_
          refine SL.ok (by decide) (OK.run 25 (.int .i64 i) (by kernel_rfl)) ?_
          refine SL.ok (by decide) (OK.run 26 (.int .i64 (IntKind.wrap .i64 (i + 1))) (by kernel_rfl)) ?_
          refine SL.head (.int .i64 (i + 1)) (congrArg (Value.int .i64) (IntWalk.i64_in _ (by omega))) ?_
          refine SL.ok (by decide) (OK.index 27 22 1 c.gY_a p2 c.gY_n (i + 1).toNat (i + 1) (p2.add (i + 1).toNat) (by kernel_rfl) (by kernel_rfl) hp2 (by omega) (by omega) (by rw [Nat.mul_one])) ?_
          refine SL.ok (by decide) (OK.ldCell 28 3 (p2.add (i + 1).toNat) (.int .i64 (c.gY_l.getD (i + 1).toNat 0)) (by kernel_rfl) (by kernel_rfl) (S4.cell hc2)) ?_
          refine SL.ok (by decide) (OK.run 29 (.bool (decide ((c.gY_l.getD (i).toNat 0) ≤ (c.gY_l.getD (i + 1).toNat 0)))) (by kernel_rfl)) ?_
          refine SL.ok (by decide) (OK.run 30 (.bool (decide ((c.gY_l.getD (i).toNat 0) ≤ (c.gY_l.getD (i + 1).toNat 0)))) (by kernel_rfl)) ?_
          refine SL.ok (by decide) (OK.run 3 (.bool (decide ((c.gY_l.getD (i).toNat 0) ≤ (c.gY_l.getD (i + 1).toNat 0)))) (by kernel_rfl)) ?_
          refine SL.done ?_
          refine TL.done (by kernel_rfl) ?_
          refine J.run 0 (rRest K18_7) [(3, .bool (decide ((c.gY_l.getD (i).toNat 0) ≤ (c.gY_l.getD (i + 1).toNat 0)))), (5, .int .i64 i), (13, .int .i64 i), (12, .int .i64 ((c.gY_n : Int) - 1)), (4, .bool dn), (1, .pointer (some ⟨b1, 0, none⟩))] w4 (by kernel_rfl) ?_
          rcases Bool.eq_false_or_eq_true dn with fk4 | fk4
          · skip
            refine J.drawStill S4 16 Tryd.mixed (by kernel_rfl) (by kernel_rfl) (by kernel_rfl) ?_
            intro w5 S5
            refine SL.ok (by decide) (OK.run 31 (.bool dn) (by kernel_rfl)) ?_
            refine SL.head (.bool true) (congrArg Value.bool fk4) ?_
            refine SL.ok (by decide) (OK.run 32 (.bool true) (by kernel_rfl)) ?_
            refine SL.ok (by decide) (OK.run 33 (.pointer (some ⟨b1, 1, none⟩)) (by kernel_rfl)) ?_
            refine SL.ok (by decide) (OK.ldBox S5 0 34 22 1 (.slice c.gY_a c.gY_n c.gY_c) (by kernel_rfl) rfl (by kernel_rfl)) ?_
            refine SL.ok (by decide) (OK.run 35 (.int .i64 i) (by kernel_rfl)) ?_
            refine SL.ok (by decide) (OK.index 36 22 1 c.gY_a p1 c.gY_n (i).toNat i (p1.add (i).toNat) (by kernel_rfl) (by kernel_rfl) hp1 (by omega) (by omega) (by rw [Nat.mul_one])) ?_
            refine SL.ok (by decide) (OK.ldCell 37 3 (p1.add (i).toNat) (.int .i64 (c.gY_l.getD (i).toNat 0)) (by kernel_rfl) (by kernel_rfl) (S5.cell hc1)) ?_
            refine SL.ok (by decide) (OK.run 38 (.pointer (some ⟨b1, 1, none⟩)) (by kernel_rfl)) ?_
            refine SL.ok (by decide) (OK.ldBox S5 0 39 22 1 (.slice c.gY_a c.gY_n c.gY_c) (by kernel_rfl) rfl (by kernel_rfl)) ?_
            refine SL.ok (by decide) (OK.run 40 (.int .i64 i) (by kernel_rfl)) ?_
            refine SL.ok (by decide) (OK.run 41 (.int .i64 (IntKind.wrap .i64 (i + 1))) (by kernel_rfl)) ?_
            refine SL.head (.int .i64 (i + 1)) (congrArg (Value.int .i64) (IntWalk.i64_in _ (by omega))) ?_
            refine SL.ok (by decide) (OK.index 42 22 1 c.gY_a p2 c.gY_n (i + 1).toNat (i + 1) (p2.add (i + 1).toNat) (by kernel_rfl) (by kernel_rfl) hp2 (by omega) (by omega) (by rw [Nat.mul_one])) ?_
            refine SL.ok (by decide) (OK.ldCell 43 3 (p2.add (i + 1).toNat) (.int .i64 (c.gY_l.getD (i + 1).toNat 0)) (by kernel_rfl) (by kernel_rfl) (S5.cell hc2)) ?_
            refine SL.ok (by decide) (OK.run 44 (.bool (decide ((c.gY_l.getD (i).toNat 0) ≥ (c.gY_l.getD (i + 1).toNat 0)))) (by kernel_rfl)) ?_
            refine SL.ok (by decide) (OK.run 45 (.bool (decide ((c.gY_l.getD (i).toNat 0) ≥ (c.gY_l.getD (i + 1).toNat 0)))) (by kernel_rfl)) ?_
            refine SL.ok (by decide) (OK.run 4 (.bool (decide ((c.gY_l.getD (i).toNat 0) ≥ (c.gY_l.getD (i + 1).toNat 0)))) (by kernel_rfl)) ?_
            refine SL.done ?_
            refine TL.done (by kernel_rfl) ?_
            refine J.run 0 (rRest (rRest K18_7)) [(4, .bool (decide ((c.gY_l.getD (i).toNat 0) ≥ (c.gY_l.getD (i + 1).toNat 0)))), (3, .bool (decide ((c.gY_l.getD (i).toNat 0) ≤ (c.gY_l.getD (i + 1).toNat 0)))), (13, .int .i64 i), (12, .int .i64 ((c.gY_n : Int) - 1)), (1, .pointer (some ⟨b1, 0, none⟩))] w5 (by kernel_rfl) ?_
            refine J.run 3 K18_8 [(46, .int .i64 (IntKind.wrap .i64 (i + 1))), (4, .bool (decide ((c.gY_l.getD (i).toNat 0) ≥ (c.gY_l.getD (i + 1).toNat 0)))), (3, .bool (decide ((c.gY_l.getD (i).toNat 0) ≤ (c.gY_l.getD (i + 1).toNat 0)))), (12, .int .i64 ((c.gY_n : Int) - 1)), (1, .pointer (some ⟨b1, 0, none⟩))] w5 (by kernel_rfl) ?_
            refine J.head (.int .i64 (i + 1)) (congrArg (Value.int .i64) (IntWalk.i64_in _ (by omega))) ?_
            refine J.run 3 K18_5 [(13, .int .i64 (i + 1)), (4, .bool (decide ((c.gY_l.getD (i).toNat 0) ≥ (c.gY_l.getD (i + 1).toNat 0)))), (3, .bool (decide ((c.gY_l.getD (i).toNat 0) ≤ (c.gY_l.getD (i + 1).toNat 0)))), (12, .int .i64 ((c.gY_n : Int) - 1)), (1, .pointer (some ⟨b1, 0, none⟩))] w5 (by kernel_rfl) ?_
            refine J.run 0 K18_5 [(13, .int .i64 (i + 1)), (12, .int .i64 ((c.gY_n : Int) - 1)), (4, .bool (decide ((c.gY_l.getD (i).toNat 0) ≥ (c.gY_l.getD (i + 1).toNat 0)))), (3, .bool (decide ((c.gY_l.getD (i).toNat 0) ≤ (c.gY_l.getD (i + 1).toNat 0)))), (1, .pointer (some ⟨b1, 0, none⟩))] w5 (by kernel_rfl) ?_
            exact ih1 _ (show ((c.gY_n : Int) - (i + 1)).toNat < mm1 from by omega) (decide ((c.gY_l.getD (i).toNat 0) ≤ (c.gY_l.getD (i + 1).toNat 0))) (decide ((c.gY_l.getD (i).toNat 0) ≥ (c.gY_l.getD (i + 1).toNat 0))) (i + 1) w5 (by omega) (by omega) (by rw [upT_step h0, ← hup, fk3]; rfl) (by rw [dnT_step h0, ← hdn, fk4]; rfl) S5 rfl
          · skip
            refine J.drawStill S4 16 Tryd.mixed (by kernel_rfl) (by kernel_rfl) (by kernel_rfl) ?_
            intro w6 S6
            refine SL.ok (by decide) (OK.run 31 (.bool dn) (by kernel_rfl)) ?_
            refine SL.head (.bool false) (congrArg Value.bool fk4) ?_
            refine SL.ok (by decide) (OK.run 32 (.bool false) (by kernel_rfl)) ?_
            refine SL.pass (d := some 33) (by decide) (by kernel_rfl) ?_
            refine SL.pass (d := some 34) (by decide) (by kernel_rfl) ?_
            refine SL.pass (d := some 35) (by decide) (by kernel_rfl) ?_
            refine SL.pass (d := some 36) (by decide) (by kernel_rfl) ?_
            refine SL.pass (d := some 37) (by decide) (by kernel_rfl) ?_
            refine SL.pass (d := some 38) (by decide) (by kernel_rfl) ?_
            refine SL.pass (d := some 39) (by decide) (by kernel_rfl) ?_
            refine SL.pass (d := some 40) (by decide) (by kernel_rfl) ?_
            refine SL.pass (d := some 41) (by decide) (by kernel_rfl) ?_
            refine SL.pass (d := some 42) (by decide) (by kernel_rfl) ?_
            refine SL.pass (d := some 43) (by decide) (by kernel_rfl) ?_
            refine SL.pass (d := some 44) (by decide) (by kernel_rfl) ?_
            refine SL.ok (by decide) (OK.run 45 (.bool false) (by kernel_rfl)) ?_
            refine SL.ok (by decide) (OK.run 4 (.bool false) (by kernel_rfl)) ?_
            refine SL.done ?_
            refine TL.done (by kernel_rfl) ?_
            refine J.run 0 (rRest (rRest K18_7)) [(4, .bool false), (3, .bool (decide ((c.gY_l.getD (i).toNat 0) ≤ (c.gY_l.getD (i + 1).toNat 0)))), (13, .int .i64 i), (12, .int .i64 ((c.gY_n : Int) - 1)), (1, .pointer (some ⟨b1, 0, none⟩))] w6 (by kernel_rfl) ?_
            refine J.run 3 K18_9 [(46, .int .i64 (IntKind.wrap .i64 (i + 1))), (4, .bool false), (3, .bool (decide ((c.gY_l.getD (i).toNat 0) ≤ (c.gY_l.getD (i + 1).toNat 0)))), (12, .int .i64 ((c.gY_n : Int) - 1)), (1, .pointer (some ⟨b1, 0, none⟩))] w6 (by kernel_rfl) ?_
            refine J.head (.int .i64 (i + 1)) (congrArg (Value.int .i64) (IntWalk.i64_in _ (by omega))) ?_
            refine J.run 3 K18_5 [(13, .int .i64 (i + 1)), (4, .bool false), (3, .bool (decide ((c.gY_l.getD (i).toNat 0) ≤ (c.gY_l.getD (i + 1).toNat 0)))), (12, .int .i64 ((c.gY_n : Int) - 1)), (1, .pointer (some ⟨b1, 0, none⟩))] w6 (by kernel_rfl) ?_
            refine J.run 0 K18_5 [(13, .int .i64 (i + 1)), (12, .int .i64 ((c.gY_n : Int) - 1)), (4, .bool false), (3, .bool (decide ((c.gY_l.getD (i).toNat 0) ≤ (c.gY_l.getD (i + 1).toNat 0)))), (1, .pointer (some ⟨b1, 0, none⟩))] w6 (by kernel_rfl) ?_
            exact ih1 _ (show ((c.gY_n : Int) - (i + 1)).toNat < mm1 from by omega) (decide ((c.gY_l.getD (i).toNat 0) ≤ (c.gY_l.getD (i + 1).toNat 0))) false (i + 1) w6 (by omega) (by omega) (by rw [upT_step h0, ← hup, fk3]; rfl) (by rw [dnT_step h0, ← hdn, fk4]; rfl) S6 rfl
        · skip
          refine J.drawStill S3 16 Tryd.mixed (by kernel_rfl) (by kernel_rfl) (by kernel_rfl) ?_
          intro w7 S7
          refine SL.ok (by decide) (OK.run 16 (.bool up) (by kernel_rfl)) ?_
          refine SL.head (.bool false) (congrArg Value.bool fk3) ?_
          refine SL.ok (by decide) (OK.run 17 (.bool false) (by kernel_rfl)) ?_
          refine SL.pass (d := some 18) (by decide) (by kernel_rfl) ?_
          refine SL.pass (d := some 19) (by decide) (by kernel_rfl) ?_
          refine SL.pass (d := some 20) (by decide) (by kernel_rfl) ?_
          refine SL.pass (d := some 21) (by decide) (by kernel_rfl) ?_
          refine SL.pass (d := some 22) (by decide) (by kernel_rfl) ?_
          refine SL.pass (d := some 23) (by decide) (by kernel_rfl) ?_
          refine SL.pass (d := some 24) (by decide) (by kernel_rfl) ?_
          refine SL.pass (d := some 25) (by decide) (by kernel_rfl) ?_
          refine SL.pass (d := some 26) (by decide) (by kernel_rfl) ?_
          refine SL.pass (d := some 27) (by decide) (by kernel_rfl) ?_
          refine SL.pass (d := some 28) (by decide) (by kernel_rfl) ?_
          refine SL.pass (d := some 29) (by decide) (by kernel_rfl) ?_
          refine SL.ok (by decide) (OK.run 30 (.bool false) (by kernel_rfl)) ?_
          refine SL.ok (by decide) (OK.run 3 (.bool false) (by kernel_rfl)) ?_
          refine SL.done ?_
          refine TL.done (by kernel_rfl) ?_
          refine J.run 0 (rRest K18_7) [(3, .bool false), (5, .int .i64 i), (13, .int .i64 i), (12, .int .i64 ((c.gY_n : Int) - 1)), (4, .bool dn), (1, .pointer (some ⟨b1, 0, none⟩))] w7 (by kernel_rfl) ?_
          rcases Bool.eq_false_or_eq_true dn with fk5 | fk5
          · skip
            obtain ⟨p3, hp3, hc3⟩ := q5.at 0 (i).toNat (by omega)
            have hel3 := getD_Q q6 0 (n := (i).toNat) (by have := q5.len_eq; omega)
            obtain ⟨p4, hp4, hc4⟩ := q5.at 0 (i + 1).toNat (by omega)
            have hel4 := getD_Q q6 0 (n := (i + 1).toNat) (by have := q5.len_eq; omega)
            refine J.drawStill S7 16 Tryd.mixed (by kernel_rfl) (by kernel_rfl) (by kernel_rfl) ?_
            intro w8 S8
            refine SL.ok (by decide) (OK.run 31 (.bool dn) (by kernel_rfl)) ?_
            refine SL.head (.bool true) (congrArg Value.bool fk5) ?_
            refine SL.ok (by decide) (OK.run 32 (.bool true) (by kernel_rfl)) ?_
            refine SL.ok (by decide) (OK.run 33 (.pointer (some ⟨b1, 1, none⟩)) (by kernel_rfl)) ?_
            refine SL.ok (by decide) (OK.ldBox S8 0 34 22 1 (.slice c.gY_a c.gY_n c.gY_c) (by kernel_rfl) rfl (by kernel_rfl)) ?_
            refine SL.ok (by decide) (OK.run 35 (.int .i64 i) (by kernel_rfl)) ?_
            refine SL.ok (by decide) (OK.index 36 22 1 c.gY_a p3 c.gY_n (i).toNat i (p3.add (i).toNat) (by kernel_rfl) (by kernel_rfl) hp3 (by omega) (by omega) (by rw [Nat.mul_one])) ?_
            refine SL.ok (by decide) (OK.ldCell 37 3 (p3.add (i).toNat) (.int .i64 (c.gY_l.getD (i).toNat 0)) (by kernel_rfl) (by kernel_rfl) (S8.cell hc3)) ?_
            refine SL.ok (by decide) (OK.run 38 (.pointer (some ⟨b1, 1, none⟩)) (by kernel_rfl)) ?_
            refine SL.ok (by decide) (OK.ldBox S8 0 39 22 1 (.slice c.gY_a c.gY_n c.gY_c) (by kernel_rfl) rfl (by kernel_rfl)) ?_
            refine SL.ok (by decide) (OK.run 40 (.int .i64 i) (by kernel_rfl)) ?_
            refine SL.ok (by decide) (OK.run 41 (.int .i64 (IntKind.wrap .i64 (i + 1))) (by kernel_rfl)) ?_
            refine SL.head (.int .i64 (i + 1)) (congrArg (Value.int .i64) (IntWalk.i64_in _ (by omega))) ?_
            refine SL.ok (by decide) (OK.index 42 22 1 c.gY_a p4 c.gY_n (i + 1).toNat (i + 1) (p4.add (i + 1).toNat) (by kernel_rfl) (by kernel_rfl) hp4 (by omega) (by omega) (by rw [Nat.mul_one])) ?_
            refine SL.ok (by decide) (OK.ldCell 43 3 (p4.add (i + 1).toNat) (.int .i64 (c.gY_l.getD (i + 1).toNat 0)) (by kernel_rfl) (by kernel_rfl) (S8.cell hc4)) ?_
            refine SL.ok (by decide) (OK.run 44 (.bool (decide ((c.gY_l.getD (i).toNat 0) ≥ (c.gY_l.getD (i + 1).toNat 0)))) (by kernel_rfl)) ?_
            refine SL.ok (by decide) (OK.run 45 (.bool (decide ((c.gY_l.getD (i).toNat 0) ≥ (c.gY_l.getD (i + 1).toNat 0)))) (by kernel_rfl)) ?_
            refine SL.ok (by decide) (OK.run 4 (.bool (decide ((c.gY_l.getD (i).toNat 0) ≥ (c.gY_l.getD (i + 1).toNat 0)))) (by kernel_rfl)) ?_
            refine SL.done ?_
            refine TL.done (by kernel_rfl) ?_
            refine J.run 0 (rRest (rRest K18_7)) [(4, .bool (decide ((c.gY_l.getD (i).toNat 0) ≥ (c.gY_l.getD (i + 1).toNat 0)))), (3, .bool false), (13, .int .i64 i), (12, .int .i64 ((c.gY_n : Int) - 1)), (1, .pointer (some ⟨b1, 0, none⟩))] w8 (by kernel_rfl) ?_
            refine J.run 3 K18_10 [(46, .int .i64 (IntKind.wrap .i64 (i + 1))), (4, .bool (decide ((c.gY_l.getD (i).toNat 0) ≥ (c.gY_l.getD (i + 1).toNat 0)))), (3, .bool false), (12, .int .i64 ((c.gY_n : Int) - 1)), (1, .pointer (some ⟨b1, 0, none⟩))] w8 (by kernel_rfl) ?_
            refine J.head (.int .i64 (i + 1)) (congrArg (Value.int .i64) (IntWalk.i64_in _ (by omega))) ?_
            refine J.run 3 K18_5 [(13, .int .i64 (i + 1)), (4, .bool (decide ((c.gY_l.getD (i).toNat 0) ≥ (c.gY_l.getD (i + 1).toNat 0)))), (3, .bool false), (12, .int .i64 ((c.gY_n : Int) - 1)), (1, .pointer (some ⟨b1, 0, none⟩))] w8 (by kernel_rfl) ?_
            refine J.run 0 K18_5 [(13, .int .i64 (i + 1)), (12, .int .i64 ((c.gY_n : Int) - 1)), (4, .bool (decide ((c.gY_l.getD (i).toNat 0) ≥ (c.gY_l.getD (i + 1).toNat 0)))), (3, .bool false), (1, .pointer (some ⟨b1, 0, none⟩))] w8 (by kernel_rfl) ?_
            exact ih1 _ (show ((c.gY_n : Int) - (i + 1)).toNat < mm1 from by omega) false (decide ((c.gY_l.getD (i).toNat 0) ≥ (c.gY_l.getD (i + 1).toNat 0))) (i + 1) w8 (by omega) (by omega) (by rw [upT_step h0, ← hup, fk3]; rfl) (by rw [dnT_step h0, ← hdn, fk5]; rfl) S8 rfl
          · skip
            refine J.drawStill S7 16 Tryd.mixed (by kernel_rfl) (by kernel_rfl) (by kernel_rfl) ?_
            intro w9 S9
            refine SL.ok (by decide) (OK.run 31 (.bool dn) (by kernel_rfl)) ?_
            refine SL.head (.bool false) (congrArg Value.bool fk5) ?_
            refine SL.ok (by decide) (OK.run 32 (.bool false) (by kernel_rfl)) ?_
            refine SL.pass (d := some 33) (by decide) (by kernel_rfl) ?_
            refine SL.pass (d := some 34) (by decide) (by kernel_rfl) ?_
            refine SL.pass (d := some 35) (by decide) (by kernel_rfl) ?_
            refine SL.pass (d := some 36) (by decide) (by kernel_rfl) ?_
            refine SL.pass (d := some 37) (by decide) (by kernel_rfl) ?_
            refine SL.pass (d := some 38) (by decide) (by kernel_rfl) ?_
            refine SL.pass (d := some 39) (by decide) (by kernel_rfl) ?_
            refine SL.pass (d := some 40) (by decide) (by kernel_rfl) ?_
            refine SL.pass (d := some 41) (by decide) (by kernel_rfl) ?_
            refine SL.pass (d := some 42) (by decide) (by kernel_rfl) ?_
            refine SL.pass (d := some 43) (by decide) (by kernel_rfl) ?_
            refine SL.pass (d := some 44) (by decide) (by kernel_rfl) ?_
            refine SL.ok (by decide) (OK.run 45 (.bool false) (by kernel_rfl)) ?_
            refine SL.ok (by decide) (OK.run 4 (.bool false) (by kernel_rfl)) ?_
            refine SL.done ?_
            refine TL.done (by kernel_rfl) ?_
            refine J.run 0 (rRest (rRest K18_7)) [(4, .bool false), (3, .bool false), (13, .int .i64 i), (12, .int .i64 ((c.gY_n : Int) - 1)), (1, .pointer (some ⟨b1, 0, none⟩))] w9 (by kernel_rfl) ?_
            refine J.run 3 K18_11 [(46, .int .i64 (IntKind.wrap .i64 (i + 1))), (4, .bool false), (3, .bool false), (12, .int .i64 ((c.gY_n : Int) - 1)), (1, .pointer (some ⟨b1, 0, none⟩))] w9 (by kernel_rfl) ?_
            refine J.head (.int .i64 (i + 1)) (congrArg (Value.int .i64) (IntWalk.i64_in _ (by omega))) ?_
            refine J.run 3 K18_5 [(13, .int .i64 (i + 1)), (4, .bool false), (3, .bool false), (12, .int .i64 ((c.gY_n : Int) - 1)), (1, .pointer (some ⟨b1, 0, none⟩))] w9 (by kernel_rfl) ?_
            refine J.run 0 K18_5 [(13, .int .i64 (i + 1)), (12, .int .i64 ((c.gY_n : Int) - 1)), (4, .bool false), (3, .bool false), (1, .pointer (some ⟨b1, 0, none⟩))] w9 (by kernel_rfl) ?_
            exact ih1 _ (show ((c.gY_n : Int) - (i + 1)).toNat < mm1 from by omega) false false (i + 1) w9 (by omega) (by omega) (by rw [upT_step h0, ← hup, fk3]; rfl) (by rw [dnT_step h0, ← hdn, fk5]; rfl) S9 rfl
      · skip
        refine J.head (.bool false) (congrArg Value.bool (decide_eq_false fk2)) ?_
        refine J.run 9 K18_12 [(47, .bool up), (4, .bool dn)] w3 (by kernel_rfl) ?_
        rcases Bool.eq_false_or_eq_true up with fk6 | fk6
        · skip
          refine J.head (.bool true) (congrArg Value.bool fk6) ?_
          refine J.run 5 K18_13 [(2, .int .i64 1)] w3 (by kernel_rfl) ?_
          refine J.ret Tryd.f18 [.int .i64 1] Tryd.func18 ⟨by kernel_rfl, trivial⟩ ?_
          refine hR _ _ ?_
          have eu : upT c.gY_l ((c.gY_l.length : Int) - 1) = up := by rw [hup]; unfold upT; rw [show ((c.gY_l.length : Int) - 1).toNat = i.toNat by omega]
          have ed : dnT c.gY_l ((c.gY_l.length : Int) - 1) = dn := by rw [hdn]; unfold dnT; rw [show ((c.gY_l.length : Int) - 1).toNat = i.toNat by omega]
          exact ⟨congrArg (Value.int .i64) (by rw [hdv]; rw [dir_up (eu.trans fk6)]), S3.nil⟩
        · skip
          refine J.head (.bool false) (congrArg Value.bool fk6) ?_
          refine J.run 6 K18_14 [(49, .bool dn)] w3 (by kernel_rfl) ?_
          rcases Bool.eq_false_or_eq_true dn with fk7 | fk7
          · skip
            refine J.head (.bool true) (congrArg Value.bool fk7) ?_
            refine J.run 5 K18_15 [(2, .int .i64 (-1))] w3 (by kernel_rfl) ?_
            refine J.ret Tryd.f18 [.int .i64 (-1)] Tryd.func18 ⟨by kernel_rfl, trivial⟩ ?_
            refine hR _ _ ?_
            have eu : upT c.gY_l ((c.gY_l.length : Int) - 1) = up := by rw [hup]; unfold upT; rw [show ((c.gY_l.length : Int) - 1).toNat = i.toNat by omega]
            have ed : dnT c.gY_l ((c.gY_l.length : Int) - 1) = dn := by rw [hdn]; unfold dnT; rw [show ((c.gY_l.length : Int) - 1).toNat = i.toNat by omega]
            exact ⟨congrArg (Value.int .i64) (by rw [hdv]; rw [dir_dn (eu.trans fk6) (ed.trans fk7)]), S3.nil⟩
          · skip
            refine J.head (.bool false) (congrArg Value.bool fk7) ?_
            refine J.run 7 K18_16 [(2, .int .i64 0)] w3 (by kernel_rfl) ?_
            refine J.ret Tryd.f18 [.int .i64 0] Tryd.func18 ⟨by kernel_rfl, trivial⟩ ?_
            refine hR _ _ ?_
            have eu : upT c.gY_l ((c.gY_l.length : Int) - 1) = up := by rw [hup]; unfold upT; rw [show ((c.gY_l.length : Int) - 1).toNat = i.toNat by omega]
            have ed : dnT c.gY_l ((c.gY_l.length : Int) - 1) = dn := by rw [hdn]; unfold dnT; rw [show ((c.gY_l.length : Int) - 1).toNat = i.toNat by omega]
            exact ⟨congrArg (Value.int .i64) (by rw [hdv]; rw [dir_no (eu.trans fk6) (ed.trans fk7)]), S3.nil⟩
    exact L18_1 _ true true 0 w2 (by omega) (by omega) (rfl) (rfl) S2 rfl
  · skip
    refine J.head (.bool true) (congrArg Value.bool (by rw [fk1]; rfl)) ?_
    refine J.run 5 K18_17 [(2, .int .i64 0)] w2 (by kernel_rfl) ?_
    refine J.ret Tryd.f18 [.int .i64 0] Tryd.func18 ⟨by kernel_rfl, trivial⟩ ?_
    refine hR _ _ ?_
    exact ⟨congrArg (Value.int .i64) (by unfold dirV; rw [fk1]; rfl), S2.nil⟩

theorem hb23 : HasBody Tryd.prog 23 := fun _ _ => by kernel_rfl
noncomputable def K23_0 : List Item := adv 2 [] (bodyOf Tryd.f23)
noncomputable def K23_1 : List Item := adv 14 [] (popK K23_0)
noncomputable def K23_2 : List Item := adv 5 [] K23_1
noncomputable def K23_3 : List Item := adv 1 [] K23_2
noncomputable def K23_4 : List Item := adv 3 [] (popK K23_3)
noncomputable def K23_5 : List Item := adv 5 [true] K23_4
noncomputable def K23_6 : List Item := adv 4 [] (rRest (rRest K23_5))
noncomputable def K23_7 : List Item := adv 4 [] (rRest (rRest K23_5))
noncomputable def K23_8 : List Item := adv 4 [] (rRest (rRest K23_5))
noncomputable def K23_9 : List Item := adv 4 [] (rRest (rRest K23_5))
noncomputable def K23_10 : List Item := adv 7 [false] K23_4
noncomputable def K23_11 : List Item := adv 5 [true] K23_10
noncomputable def K23_12 : List Item := adv 7 [false] K23_10
noncomputable def K23_13 : List Item := adv 5 [true] K23_12
noncomputable def K23_14 : List Item := adv 6 [false] K23_12
set_option maxRecDepth 20000 in
set_option maxHeartbeats 20000000 in
theorem rcdir_any (c : Crv) (w : World) (hc : crvQ w c) : Ret Tryd.prog 23 #[.agg #[.slice c.gX_a c.gX_n c.gX_c, .slice c.gY_a c.gY_n c.gY_c]] w (fun v w' => v = .int .i64 (dirL c.gY_l) ∧ Sep w [] w') := by
  have S0 := Sep.refl w
  refine Ret.named fun R hR => ?_
  refine Ret.of_J (N := 46) [(0, .agg #[.slice c.gX_a c.gX_n c.gX_c, .slice c.gY_a c.gY_n c.gY_c])] Tryd.func23 rfl rfl (Nat.le_of_ble_eq_true (by kernel_rfl)) (by kernel_rfl) ?_
  obtain ⟨q1, q2, q3, q4, q5, q6, _⟩ := id hc
  have ql1 := q2.len_eq
  have ql2 := q5.len_eq
  refine J.run 2 K23_0 [(0, .agg #[.slice c.gX_a c.gX_n c.gX_c, .slice c.gY_a c.gY_n c.gY_c])] w (by kernel_rfl) ?_
  refine J.new S0 1 [.slice c.gX_a c.gX_n c.gX_c, .slice c.gY_a c.gY_n c.gY_c] 24 (by kernel_rfl) ?_
  intro b1 w1 S1
  refine J.run 14 K23_1 [(5, .int .i64 0), (4, .bool true), (3, .bool true), (1, .pointer (some ⟨b1, 0, none⟩))] w1 (by kernel_rfl) ?_
  have L23_1 : ∀ (mm_ : Nat) (up : Bool) (dn : Bool) (i : Int) (w2 : World), (0 ≤ i) → (i + 1 ≤ (c.gY_n : Int) ∨ i = 0) → (up = upT c.gY_l i) → (dn = dnT c.gY_l i) → Sep w [box b1 [.slice c.gX_a c.gX_n c.gX_c, .slice c.gY_a c.gY_n c.gY_c] 24] w2 → ((c.gY_n : Int) - i).toNat = mm_ → J Tryd.prog 23 46 R K23_1 [(5, .int .i64 i), (4, .bool dn), (3, .bool up), (1, .pointer (some ⟨b1, 0, none⟩))] w2 := by
    intro mm1
    induction mm1 using Nat.strongRecOn with
    | _ mm1 ih1 =>
    intro up dn i w2 h0 h1 hup hdn S2 hm1
    refine J.run 5 K23_2 [(7, .int .i64 (IntKind.wrap .i64 (i + 1))), (5, .int .i64 i), (4, .bool dn), (3, .bool up), (1, .pointer (some ⟨b1, 0, none⟩))] w2 (by kernel_rfl) ?_
    refine J.head (.int .i64 (i + 1)) (congrArg (Value.int .i64) (IntWalk.i64_in _ (by omega))) ?_
    refine J.run 1 K23_3 [(8, .pointer (some ⟨b1, 1, none⟩)), (7, .int .i64 (i + 1)), (5, .int .i64 i), (4, .bool dn), (3, .bool up), (1, .pointer (some ⟨b1, 0, none⟩))] w2 (by kernel_rfl) ?_
    refine J.ok (OK.ldBox S2 0 9 22 1 (.slice c.gY_a c.gY_n c.gY_c) (by kernel_rfl) rfl (by kernel_rfl)) ?_
    refine J.run 3 K23_4 [(11, .bool (decide ((i + 1) < (c.gY_n : Int)))), (5, .int .i64 i), (4, .bool dn), (3, .bool up), (1, .pointer (some ⟨b1, 0, none⟩))] w2 (by kernel_rfl) ?_
    by_cases fk1 : (i + 1) < (c.gY_n : Int)
    · skip
      refine J.head (.bool true) (congrArg Value.bool (decide_eq_true fk1)) ?_
      refine J.run 5 K23_5 [(5, .int .i64 i), (4, .bool dn), (3, .bool up), (1, .pointer (some ⟨b1, 0, none⟩))] w2 (by kernel_rfl) ?_
      rcases Bool.eq_false_or_eq_true up with fk2 | fk2
      · skip
        obtain ⟨p1, hp1, hc1⟩ := q5.at 0 (i).toNat (by omega)
        have hel1 := getD_Q q6 0 (n := (i).toNat) (by have := q5.len_eq; omega)
        obtain ⟨p2, hp2, hc2⟩ := q5.at 0 (i + 1).toNat (by omega)
        have hel2 := getD_Q q6 0 (n := (i + 1).toNat) (by have := q5.len_eq; omega)
        refine J.drawStill S2 16 Tryd.mixed (by kernel_rfl) (by kernel_rfl) (by kernel_rfl) ?_
        intro w3 S3
        refine SL.ok (by decide) (OK.run 14 (.bool up) (by kernel_rfl)) ?_
        refine SL.head (.bool true) (congrArg Value.bool fk2) ?_
        refine SL.ok (by decide) (OK.run 15 (.bool true) (by kernel_rfl)) ?_
        refine SL.ok (by decide) (OK.run 16 (.pointer (some ⟨b1, 1, none⟩)) (by kernel_rfl)) ?_
        refine SL.ok (by decide) (OK.ldBox S3 0 17 22 1 (.slice c.gY_a c.gY_n c.gY_c) (by kernel_rfl) rfl (by kernel_rfl)) ?_
        refine SL.ok (by decide) (OK.run 18 (.int .i64 i) (by kernel_rfl)) ?_
        refine SL.ok (by decide) (OK.index 19 22 1 c.gY_a p1 c.gY_n (i).toNat i (p1.add (i).toNat) (by kernel_rfl) (by kernel_rfl) hp1 (by omega) (by omega) (by rw [Nat.mul_one])) ?_
        refine SL.ok (by decide) (OK.ldCell 20 3 (p1.add (i).toNat) (.int .i64 (c.gY_l.getD (i).toNat 0)) (by kernel_rfl) (by kernel_rfl) (S3.cell hc1)) ?_
        refine SL.ok (by decide) (OK.run 21 (.pointer (some ⟨b1, 1, none⟩)) (by kernel_rfl)) ?_
        refine SL.ok (by decide) (OK.ldBox S3 0 22 22 1 (.slice c.gY_a c.gY_n c.gY_c) (by kernel_rfl) rfl (by kernel_rfl)) ?_
        refine SL.ok (by decide) (OK.run 23 (.int .i64 i) (by kernel_rfl)) ?_
        refine SL.ok (by decide) (OK.run 24 (.int .i64 (IntKind.wrap .i64 (i + 1))) (by kernel_rfl)) ?_
        refine SL.head (.int .i64 (i + 1)) (congrArg (Value.int .i64) (IntWalk.i64_in _ (by omega))) ?_
        refine SL.ok (by decide) (OK.index 25 22 1 c.gY_a p2 c.gY_n (i + 1).toNat (i + 1) (p2.add (i + 1).toNat) (by kernel_rfl) (by kernel_rfl) hp2 (by omega) (by omega) (by rw [Nat.mul_one])) ?_
        refine SL.ok (by decide) (OK.ldCell 26 3 (p2.add (i + 1).toNat) (.int .i64 (c.gY_l.getD (i + 1).toNat 0)) (by kernel_rfl) (by kernel_rfl) (S3.cell hc2)) ?_
        refine SL.ok (by decide) (OK.run 27 (.bool (decide ((c.gY_l.getD (i).toNat 0) ≤ (c.gY_l.getD (i + 1).toNat 0)))) (by kernel_rfl)) ?_
        refine SL.ok (by decide) (OK.run 28 (.bool (decide ((c.gY_l.getD (i).toNat 0) ≤ (c.gY_l.getD (i + 1).toNat 0)))) (by kernel_rfl)) ?_
        refine SL.ok (by decide) (OK.run 3 (.bool (decide ((c.gY_l.getD (i).toNat 0) ≤ (c.gY_l.getD (i + 1).toNat 0)))) (by kernel_rfl)) ?_
        refine SL.done ?_
        refine TL.done (by kernel_rfl) ?_
        refine J.run 0 (rRest K23_5) [(3, .bool (decide ((c.gY_l.getD (i).toNat 0) ≤ (c.gY_l.getD (i + 1).toNat 0)))), (5, .int .i64 i), (4, .bool dn), (1, .pointer (some ⟨b1, 0, none⟩))] w3 (by kernel_rfl) ?_
        rcases Bool.eq_false_or_eq_true dn with fk3 | fk3
        · skip
          refine J.drawStill S3 16 Tryd.mixed (by kernel_rfl) (by kernel_rfl) (by kernel_rfl) ?_
          intro w4 S4
          refine SL.ok (by decide) (OK.run 29 (.bool dn) (by kernel_rfl)) ?_
          refine SL.head (.bool true) (congrArg Value.bool fk3) ?_
          refine SL.ok (by decide) (OK.run 30 (.bool true) (by kernel_rfl)) ?_
          refine SL.ok (by decide) (OK.run 31 (.pointer (some ⟨b1, 1, none⟩)) (by kernel_rfl)) ?_
          refine SL.ok (by decide) (OK.ldBox S4 0 32 22 1 (.slice c.gY_a c.gY_n c.gY_c) (by kernel_rfl) rfl (by kernel_rfl)) ?_
          refine SL.ok (by decide) (OK.run 33 (.int .i64 i) (by kernel_rfl)) ?_
          refine SL.ok (by decide) (OK.index 34 22 1 c.gY_a p1 c.gY_n (i).toNat i (p1.add (i).toNat) (by kernel_rfl) (by kernel_rfl) hp1 (by omega) (by omega) (by rw [Nat.mul_one])) ?_
          refine SL.ok (by decide) (OK.ldCell 35 3 (p1.add (i).toNat) (.int .i64 (c.gY_l.getD (i).toNat 0)) (by kernel_rfl) (by kernel_rfl) (S4.cell hc1)) ?_
          refine SL.ok (by decide) (OK.run 36 (.pointer (some ⟨b1, 1, none⟩)) (by kernel_rfl)) ?_
          refine SL.ok (by decide) (OK.ldBox S4 0 37 22 1 (.slice c.gY_a c.gY_n c.gY_c) (by kernel_rfl) rfl (by kernel_rfl)) ?_
          refine SL.ok (by decide) (OK.run 38 (.int .i64 i) (by kernel_rfl)) ?_
          refine SL.ok (by decide) (OK.run 39 (.int .i64 (IntKind.wrap .i64 (i + 1))) (by kernel_rfl)) ?_
          refine SL.head (.int .i64 (i + 1)) (congrArg (Value.int .i64) (IntWalk.i64_in _ (by omega))) ?_
          refine SL.ok (by decide) (OK.index 40 22 1 c.gY_a p2 c.gY_n (i + 1).toNat (i + 1) (p2.add (i + 1).toNat) (by kernel_rfl) (by kernel_rfl) hp2 (by omega) (by omega) (by rw [Nat.mul_one])) ?_
          refine SL.ok (by decide) (OK.ldCell 41 3 (p2.add (i + 1).toNat) (.int .i64 (c.gY_l.getD (i + 1).toNat 0)) (by kernel_rfl) (by kernel_rfl) (S4.cell hc2)) ?_
          refine SL.ok (by decide) (OK.run 42 (.bool (decide ((c.gY_l.getD (i).toNat 0) ≥ (c.gY_l.getD (i + 1).toNat 0)))) (by kernel_rfl)) ?_
          refine SL.ok (by decide) (OK.run 43 (.bool (decide ((c.gY_l.getD (i).toNat 0) ≥ (c.gY_l.getD (i + 1).toNat 0)))) (by kernel_rfl)) ?_
          refine SL.ok (by decide) (OK.run 4 (.bool (decide ((c.gY_l.getD (i).toNat 0) ≥ (c.gY_l.getD (i + 1).toNat 0)))) (by kernel_rfl)) ?_
          refine SL.done ?_
          refine TL.done (by kernel_rfl) ?_
          refine J.run 0 (rRest (rRest K23_5)) [(4, .bool (decide ((c.gY_l.getD (i).toNat 0) ≥ (c.gY_l.getD (i + 1).toNat 0)))), (3, .bool (decide ((c.gY_l.getD (i).toNat 0) ≤ (c.gY_l.getD (i + 1).toNat 0)))), (5, .int .i64 i), (1, .pointer (some ⟨b1, 0, none⟩))] w4 (by kernel_rfl) ?_
          refine J.run 4 K23_6 [(13, .int .i64 (IntKind.wrap .i64 (i + 1))), (4, .bool (decide ((c.gY_l.getD (i).toNat 0) ≥ (c.gY_l.getD (i + 1).toNat 0)))), (3, .bool (decide ((c.gY_l.getD (i).toNat 0) ≤ (c.gY_l.getD (i + 1).toNat 0)))), (1, .pointer (some ⟨b1, 0, none⟩))] w4 (by kernel_rfl) ?_
          refine J.head (.int .i64 (i + 1)) (congrArg (Value.int .i64) (IntWalk.i64_in _ (by omega))) ?_
          refine J.run 3 K23_1 [(5, .int .i64 (i + 1)), (4, .bool (decide ((c.gY_l.getD (i).toNat 0) ≥ (c.gY_l.getD (i + 1).toNat 0)))), (3, .bool (decide ((c.gY_l.getD (i).toNat 0) ≤ (c.gY_l.getD (i + 1).toNat 0)))), (1, .pointer (some ⟨b1, 0, none⟩))] w4 (by kernel_rfl) ?_
          refine J.run 0 K23_1 [(5, .int .i64 (i + 1)), (4, .bool (decide ((c.gY_l.getD (i).toNat 0) ≥ (c.gY_l.getD (i + 1).toNat 0)))), (3, .bool (decide ((c.gY_l.getD (i).toNat 0) ≤ (c.gY_l.getD (i + 1).toNat 0)))), (1, .pointer (some ⟨b1, 0, none⟩))] w4 (by kernel_rfl) ?_
          exact ih1 _ (show ((c.gY_n : Int) - (i + 1)).toNat < mm1 from by omega) (decide ((c.gY_l.getD (i).toNat 0) ≤ (c.gY_l.getD (i + 1).toNat 0))) (decide ((c.gY_l.getD (i).toNat 0) ≥ (c.gY_l.getD (i + 1).toNat 0))) (i + 1) w4 (by omega) (by omega) (by rw [upT_step h0, ← hup, fk2]; rfl) (by rw [dnT_step h0, ← hdn, fk3]; rfl) S4 rfl
        · skip
          refine J.drawStill S3 16 Tryd.mixed (by kernel_rfl) (by kernel_rfl) (by kernel_rfl) ?_
          intro w5 S5
          refine SL.ok (by decide) (OK.run 29 (.bool dn) (by kernel_rfl)) ?_
          refine SL.head (.bool false) (congrArg Value.bool fk3) ?_
          refine SL.ok (by decide) (OK.run 30 (.bool false) (by kernel_rfl)) ?_
          refine SL.pass (d := some 31) (by decide) (by kernel_rfl) ?_
          refine SL.pass (d := some 32) (by decide) (by kernel_rfl) ?_
          refine SL.pass (d := some 33) (by decide) (by kernel_rfl) ?_
          refine SL.pass (d := some 34) (by decide) (by kernel_rfl) ?_
          refine SL.pass (d := some 35) (by decide) (by kernel_rfl) ?_
          refine SL.pass (d := some 36) (by decide) (by kernel_rfl) ?_
          refine SL.pass (d := some 37) (by decide) (by kernel_rfl) ?_
          refine SL.pass (d := some 38) (by decide) (by kernel_rfl) ?_
          refine SL.pass (d := some 39) (by decide) (by kernel_rfl) ?_
          refine SL.pass (d := some 40) (by decide) (by kernel_rfl) ?_
          refine SL.pass (d := some 41) (by decide) (by kernel_rfl) ?_
          refine SL.pass (d := some 42) (by decide) (by kernel_rfl) ?_
          refine SL.ok (by decide) (OK.run 43 (.bool false) (by kernel_rfl)) ?_
          refine SL.ok (by decide) (OK.run 4 (.bool false) (by kernel_rfl)) ?_
          refine SL.done ?_
          refine TL.done (by kernel_rfl) ?_
          refine J.run 0 (rRest (rRest K23_5)) [(4, .bool false), (3, .bool (decide ((c.gY_l.getD (i).toNat 0) ≤ (c.gY_l.getD (i + 1).toNat 0)))), (5, .int .i64 i), (1, .pointer (some ⟨b1, 0, none⟩))] w5 (by kernel_rfl) ?_
          refine J.run 4 K23_7 [(13, .int .i64 (IntKind.wrap .i64 (i + 1))), (4, .bool false), (3, .bool (decide ((c.gY_l.getD (i).toNat 0) ≤ (c.gY_l.getD (i + 1).toNat 0)))), (1, .pointer (some ⟨b1, 0, none⟩))] w5 (by kernel_rfl) ?_
          refine J.head (.int .i64 (i + 1)) (congrArg (Value.int .i64) (IntWalk.i64_in _ (by omega))) ?_
          refine J.run 3 K23_1 [(5, .int .i64 (i + 1)), (4, .bool false), (3, .bool (decide ((c.gY_l.getD (i).toNat 0) ≤ (c.gY_l.getD (i + 1).toNat 0)))), (1, .pointer (some ⟨b1, 0, none⟩))] w5 (by kernel_rfl) ?_
          refine J.run 0 K23_1 [(5, .int .i64 (i + 1)), (4, .bool false), (3, .bool (decide ((c.gY_l.getD (i).toNat 0) ≤ (c.gY_l.getD (i + 1).toNat 0)))), (1, .pointer (some ⟨b1, 0, none⟩))] w5 (by kernel_rfl) ?_
          exact ih1 _ (show ((c.gY_n : Int) - (i + 1)).toNat < mm1 from by omega) (decide ((c.gY_l.getD (i).toNat 0) ≤ (c.gY_l.getD (i + 1).toNat 0))) false (i + 1) w5 (by omega) (by omega) (by rw [upT_step h0, ← hup, fk2]; rfl) (by rw [dnT_step h0, ← hdn, fk3]; rfl) S5 rfl
      · skip
        refine J.drawStill S2 16 Tryd.mixed (by kernel_rfl) (by kernel_rfl) (by kernel_rfl) ?_
        intro w6 S6
        refine SL.ok (by decide) (OK.run 14 (.bool up) (by kernel_rfl)) ?_
        refine SL.head (.bool false) (congrArg Value.bool fk2) ?_
        refine SL.ok (by decide) (OK.run 15 (.bool false) (by kernel_rfl)) ?_
        refine SL.pass (d := some 16) (by decide) (by kernel_rfl) ?_
        refine SL.pass (d := some 17) (by decide) (by kernel_rfl) ?_
        refine SL.pass (d := some 18) (by decide) (by kernel_rfl) ?_
        refine SL.pass (d := some 19) (by decide) (by kernel_rfl) ?_
        refine SL.pass (d := some 20) (by decide) (by kernel_rfl) ?_
        refine SL.pass (d := some 21) (by decide) (by kernel_rfl) ?_
        refine SL.pass (d := some 22) (by decide) (by kernel_rfl) ?_
        refine SL.pass (d := some 23) (by decide) (by kernel_rfl) ?_
        refine SL.pass (d := some 24) (by decide) (by kernel_rfl) ?_
        refine SL.pass (d := some 25) (by decide) (by kernel_rfl) ?_
        refine SL.pass (d := some 26) (by decide) (by kernel_rfl) ?_
        refine SL.pass (d := some 27) (by decide) (by kernel_rfl) ?_
        refine SL.ok (by decide) (OK.run 28 (.bool false) (by kernel_rfl)) ?_
        refine SL.ok (by decide) (OK.run 3 (.bool false) (by kernel_rfl)) ?_
        refine SL.done ?_
        refine TL.done (by kernel_rfl) ?_
        refine J.run 0 (rRest K23_5) [(3, .bool false), (5, .int .i64 i), (4, .bool dn), (1, .pointer (some ⟨b1, 0, none⟩))] w6 (by kernel_rfl) ?_
        rcases Bool.eq_false_or_eq_true dn with fk4 | fk4
        · skip
          obtain ⟨p3, hp3, hc3⟩ := q5.at 0 (i).toNat (by omega)
          have hel3 := getD_Q q6 0 (n := (i).toNat) (by have := q5.len_eq; omega)
          obtain ⟨p4, hp4, hc4⟩ := q5.at 0 (i + 1).toNat (by omega)
          have hel4 := getD_Q q6 0 (n := (i + 1).toNat) (by have := q5.len_eq; omega)
          refine J.drawStill S6 16 Tryd.mixed (by kernel_rfl) (by kernel_rfl) (by kernel_rfl) ?_
          intro w7 S7
          refine SL.ok (by decide) (OK.run 29 (.bool dn) (by kernel_rfl)) ?_
          refine SL.head (.bool true) (congrArg Value.bool fk4) ?_
          refine SL.ok (by decide) (OK.run 30 (.bool true) (by kernel_rfl)) ?_
          refine SL.ok (by decide) (OK.run 31 (.pointer (some ⟨b1, 1, none⟩)) (by kernel_rfl)) ?_
          refine SL.ok (by decide) (OK.ldBox S7 0 32 22 1 (.slice c.gY_a c.gY_n c.gY_c) (by kernel_rfl) rfl (by kernel_rfl)) ?_
          refine SL.ok (by decide) (OK.run 33 (.int .i64 i) (by kernel_rfl)) ?_
          refine SL.ok (by decide) (OK.index 34 22 1 c.gY_a p3 c.gY_n (i).toNat i (p3.add (i).toNat) (by kernel_rfl) (by kernel_rfl) hp3 (by omega) (by omega) (by rw [Nat.mul_one])) ?_
          refine SL.ok (by decide) (OK.ldCell 35 3 (p3.add (i).toNat) (.int .i64 (c.gY_l.getD (i).toNat 0)) (by kernel_rfl) (by kernel_rfl) (S7.cell hc3)) ?_
          refine SL.ok (by decide) (OK.run 36 (.pointer (some ⟨b1, 1, none⟩)) (by kernel_rfl)) ?_
          refine SL.ok (by decide) (OK.ldBox S7 0 37 22 1 (.slice c.gY_a c.gY_n c.gY_c) (by kernel_rfl) rfl (by kernel_rfl)) ?_
          refine SL.ok (by decide) (OK.run 38 (.int .i64 i) (by kernel_rfl)) ?_
          refine SL.ok (by decide) (OK.run 39 (.int .i64 (IntKind.wrap .i64 (i + 1))) (by kernel_rfl)) ?_
          refine SL.head (.int .i64 (i + 1)) (congrArg (Value.int .i64) (IntWalk.i64_in _ (by omega))) ?_
          refine SL.ok (by decide) (OK.index 40 22 1 c.gY_a p4 c.gY_n (i + 1).toNat (i + 1) (p4.add (i + 1).toNat) (by kernel_rfl) (by kernel_rfl) hp4 (by omega) (by omega) (by rw [Nat.mul_one])) ?_
          refine SL.ok (by decide) (OK.ldCell 41 3 (p4.add (i + 1).toNat) (.int .i64 (c.gY_l.getD (i + 1).toNat 0)) (by kernel_rfl) (by kernel_rfl) (S7.cell hc4)) ?_
          refine SL.ok (by decide) (OK.run 42 (.bool (decide ((c.gY_l.getD (i).toNat 0) ≥ (c.gY_l.getD (i + 1).toNat 0)))) (by kernel_rfl)) ?_
          refine SL.ok (by decide) (OK.run 43 (.bool (decide ((c.gY_l.getD (i).toNat 0) ≥ (c.gY_l.getD (i + 1).toNat 0)))) (by kernel_rfl)) ?_
          refine SL.ok (by decide) (OK.run 4 (.bool (decide ((c.gY_l.getD (i).toNat 0) ≥ (c.gY_l.getD (i + 1).toNat 0)))) (by kernel_rfl)) ?_
          refine SL.done ?_
          refine TL.done (by kernel_rfl) ?_
          refine J.run 0 (rRest (rRest K23_5)) [(4, .bool (decide ((c.gY_l.getD (i).toNat 0) ≥ (c.gY_l.getD (i + 1).toNat 0)))), (3, .bool false), (5, .int .i64 i), (1, .pointer (some ⟨b1, 0, none⟩))] w7 (by kernel_rfl) ?_
          refine J.run 4 K23_8 [(13, .int .i64 (IntKind.wrap .i64 (i + 1))), (4, .bool (decide ((c.gY_l.getD (i).toNat 0) ≥ (c.gY_l.getD (i + 1).toNat 0)))), (3, .bool false), (1, .pointer (some ⟨b1, 0, none⟩))] w7 (by kernel_rfl) ?_
          refine J.head (.int .i64 (i + 1)) (congrArg (Value.int .i64) (IntWalk.i64_in _ (by omega))) ?_
          refine J.run 3 K23_1 [(5, .int .i64 (i + 1)), (4, .bool (decide ((c.gY_l.getD (i).toNat 0) ≥ (c.gY_l.getD (i + 1).toNat 0)))), (3, .bool false), (1, .pointer (some ⟨b1, 0, none⟩))] w7 (by kernel_rfl) ?_
          refine J.run 0 K23_1 [(5, .int .i64 (i + 1)), (4, .bool (decide ((c.gY_l.getD (i).toNat 0) ≥ (c.gY_l.getD (i + 1).toNat 0)))), (3, .bool false), (1, .pointer (some ⟨b1, 0, none⟩))] w7 (by kernel_rfl) ?_
          exact ih1 _ (show ((c.gY_n : Int) - (i + 1)).toNat < mm1 from by omega) false (decide ((c.gY_l.getD (i).toNat 0) ≥ (c.gY_l.getD (i + 1).toNat 0))) (i + 1) w7 (by omega) (by omega) (by rw [upT_step h0, ← hup, fk2]; rfl) (by rw [dnT_step h0, ← hdn, fk4]; rfl) S7 rfl
        · skip
          refine J.drawStill S6 16 Tryd.mixed (by kernel_rfl) (by kernel_rfl) (by kernel_rfl) ?_
          intro w8 S8
          refine SL.ok (by decide) (OK.run 29 (.bool dn) (by kernel_rfl)) ?_
          refine SL.head (.bool false) (congrArg Value.bool fk4) ?_
          refine SL.ok (by decide) (OK.run 30 (.bool false) (by kernel_rfl)) ?_
          refine SL.pass (d := some 31) (by decide) (by kernel_rfl) ?_
          refine SL.pass (d := some 32) (by decide) (by kernel_rfl) ?_
          refine SL.pass (d := some 33) (by decide) (by kernel_rfl) ?_
          refine SL.pass (d := some 34) (by decide) (by kernel_rfl) ?_
          refine SL.pass (d := some 35) (by decide) (by kernel_rfl) ?_
          refine SL.pass (d := some 36) (by decide) (by kernel_rfl) ?_
          refine SL.pass (d := some 37) (by decide) (by kernel_rfl) ?_
          refine SL.pass (d := some 38) (by decide) (by kernel_rfl) ?_
          refine SL.pass (d := some 39) (by decide) (by kernel_rfl) ?_
          refine SL.pass (d := some 40) (by decide) (by kernel_rfl) ?_
          refine SL.pass (d := some 41) (by decide) (by kernel_rfl) ?_
          refine SL.pass (d := some 42) (by decide) (by kernel_rfl) ?_
          refine SL.ok (by decide) (OK.run 43 (.bool false) (by kernel_rfl)) ?_
          refine SL.ok (by decide) (OK.run 4 (.bool false) (by kernel_rfl)) ?_
          refine SL.done ?_
          refine TL.done (by kernel_rfl) ?_
          refine J.run 0 (rRest (rRest K23_5)) [(4, .bool false), (3, .bool false), (5, .int .i64 i), (1, .pointer (some ⟨b1, 0, none⟩))] w8 (by kernel_rfl) ?_
          refine J.run 4 K23_9 [(13, .int .i64 (IntKind.wrap .i64 (i + 1))), (4, .bool false), (3, .bool false), (1, .pointer (some ⟨b1, 0, none⟩))] w8 (by kernel_rfl) ?_
          refine J.head (.int .i64 (i + 1)) (congrArg (Value.int .i64) (IntWalk.i64_in _ (by omega))) ?_
          refine J.run 3 K23_1 [(5, .int .i64 (i + 1)), (4, .bool false), (3, .bool false), (1, .pointer (some ⟨b1, 0, none⟩))] w8 (by kernel_rfl) ?_
          refine J.run 0 K23_1 [(5, .int .i64 (i + 1)), (4, .bool false), (3, .bool false), (1, .pointer (some ⟨b1, 0, none⟩))] w8 (by kernel_rfl) ?_
          exact ih1 _ (show ((c.gY_n : Int) - (i + 1)).toNat < mm1 from by omega) false false (i + 1) w8 (by omega) (by omega) (by rw [upT_step h0, ← hup, fk2]; rfl) (by rw [dnT_step h0, ← hdn, fk4]; rfl) S8 rfl
    · skip
      refine J.head (.bool false) (congrArg Value.bool (decide_eq_false fk1)) ?_
      refine J.run 7 K23_10 [(44, .bool up), (4, .bool dn)] w2 (by kernel_rfl) ?_
      rcases Bool.eq_false_or_eq_true up with fk5 | fk5
      · skip
        refine J.head (.bool true) (congrArg Value.bool fk5) ?_
        refine J.run 5 K23_11 [(2, .int .i64 1)] w2 (by kernel_rfl) ?_
        refine J.ret Tryd.f23 [.int .i64 1] Tryd.func23 ⟨by kernel_rfl, trivial⟩ ?_
        refine hR _ _ ?_
        have eu : upT c.gY_l ((c.gY_l.length : Int) - 1) = up := by rw [hup]; unfold upT; rw [show ((c.gY_l.length : Int) - 1).toNat = i.toNat by omega]
        have ed : dnT c.gY_l ((c.gY_l.length : Int) - 1) = dn := by rw [hdn]; unfold dnT; rw [show ((c.gY_l.length : Int) - 1).toNat = i.toNat by omega]
        exact ⟨congrArg (Value.int .i64) (by rw [dir_up (eu.trans fk5)]), S2.nil⟩
      · skip
        refine J.head (.bool false) (congrArg Value.bool fk5) ?_
        refine J.run 7 K23_12 [(45, .bool dn)] w2 (by kernel_rfl) ?_
        rcases Bool.eq_false_or_eq_true dn with fk6 | fk6
        · skip
          refine J.head (.bool true) (congrArg Value.bool fk6) ?_
          refine J.run 5 K23_13 [(2, .int .i64 (-1))] w2 (by kernel_rfl) ?_
          refine J.ret Tryd.f23 [.int .i64 (-1)] Tryd.func23 ⟨by kernel_rfl, trivial⟩ ?_
          refine hR _ _ ?_
          have eu : upT c.gY_l ((c.gY_l.length : Int) - 1) = up := by rw [hup]; unfold upT; rw [show ((c.gY_l.length : Int) - 1).toNat = i.toNat by omega]
          have ed : dnT c.gY_l ((c.gY_l.length : Int) - 1) = dn := by rw [hdn]; unfold dnT; rw [show ((c.gY_l.length : Int) - 1).toNat = i.toNat by omega]
          exact ⟨congrArg (Value.int .i64) (by rw [dir_dn (eu.trans fk5) (ed.trans fk6)]), S2.nil⟩
        · skip
          refine J.head (.bool false) (congrArg Value.bool fk6) ?_
          refine J.run 6 K23_14 [(2, .int .i64 0)] w2 (by kernel_rfl) ?_
          refine J.ret Tryd.f23 [.int .i64 0] Tryd.func23 ⟨by kernel_rfl, trivial⟩ ?_
          refine hR _ _ ?_
          have eu : upT c.gY_l ((c.gY_l.length : Int) - 1) = up := by rw [hup]; unfold upT; rw [show ((c.gY_l.length : Int) - 1).toNat = i.toNat by omega]
          have ed : dnT c.gY_l ((c.gY_l.length : Int) - 1) = dn := by rw [hdn]; unfold dnT; rw [show ((c.gY_l.length : Int) - 1).toNat = i.toNat by omega]
          exact ⟨congrArg (Value.int .i64) (by rw [dir_no (eu.trans fk5) (ed.trans fk6)]), S2.nil⟩
  exact L23_1 _ true true 0 w1 (by omega) (by omega) (rfl) (rfl) S1 rfl

end Go.Proofs.YtdilhoibcbihlaaDoor
