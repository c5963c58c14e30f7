/- Walks of functions of this seat, printed by a program over the engine. Conditions: as each theorem says. -/
import Derived.Test.YtempepmfifljmaaF17
namespace Go.Proofs.Ytempepmfifljmaa
open Go.Eng Go.RowKit
set_option linter.unusedSimpArgs false
set_option linter.unusedVariables false
theorem hb52 : HasBody Try.prog 52 := fun _ _ => by kernel_rfl
noncomputable def K52_0 : List Item := adv 2 [] (bodyOf Try.f52)
noncomputable def K52_1 : List Item := adv 5 [] (popK K52_0)
noncomputable def K52_2 : List Item := adv 1 [] (popK K52_1)
noncomputable def K52_3 : List Item := adv 11 [] (popK (popK K52_2))
noncomputable def K52_4 : List Item := adv 5 [] K52_3
noncomputable def K52_5 : List Item := adv 6 [true] K52_4
noncomputable def K52_6 : List Item := adv 6 [] (popK (popK K52_5))
noncomputable def K52_7 : List Item := adv 2 [] (popK K52_6)
noncomputable def K52_8 : List Item := adv 2 [] K52_7
noncomputable def K52_9 : List Item := adv 3 [] (popK K52_8)
noncomputable def K52_10 : List Item := adv 4 [true] K52_9
noncomputable def K52_11 : List Item := adv 5 [] (popK (popK K52_10))
noncomputable def K52_12 : List Item := adv 5 [false] K52_9
noncomputable def K52_13 : List Item := adv 11 [false] K52_7
noncomputable def K52_14 : List Item := adv 7 [false] K52_4
set_option maxRecDepth 20000 in
set_option maxHeartbeats 20000000 in
theorem points_any (la : Option Addr) (len cap : Nat) (l : List Int) (lo hi : Int) (w : World) (hI : Ints w la len l) (hlen : len ≤ 9223372036854775807) (hsm : len ≤ 4096) : Ret Try.prog 52 #[.slice la len cap, .agg #[.int .i64 lo, .int .i64 hi]] w (fun v w' => ∃ a cap, v = .slice a (ptsF l lo hi).length cap ∧ Sep w [rowOf encI a cap 3 1 (ptsF l lo hi)] w') := by
  have S0 := Sep.refl w
  refine Ret.named fun R hR => ?_
  refine Ret.of_J (N := 35) [(0, .slice la len cap), (1, .agg #[.int .i64 lo, .int .i64 hi])] Try.func52 rfl rfl (Nat.le_of_ble_eq_true (by kernel_rfl)) (by kernel_rfl) ?_
  have hll := hI.len_eq
  refine J.run 2 K52_0 [(0, .slice la len cap), (1, .agg #[.int .i64 lo, .int .i64 hi])] w (by kernel_rfl) ?_
  refine J.new S0 3 [.int .i64 lo, .int .i64 hi] 47 (by kernel_rfl) ?_
  intro b1 w1 S1
  refine J.run 5 K52_1 [(8, .pointer (some ⟨b1, 0, none⟩)), (3, .pointer (some ⟨b1, 0, none⟩)), (0, .slice la len cap)] w1 (by kernel_rfl) ?_
  refine J.ok (OK.ldBox S1 0 9 3 0 (.int .i64 lo) (by kernel_rfl) rfl (by kernel_rfl)) ?_
  refine J.run 1 K52_2 [(10, .pointer (some ⟨b1, 1, none⟩)), (9, .int .i64 lo), (3, .pointer (some ⟨b1, 0, none⟩)), (0, .slice la len cap)] w1 (by kernel_rfl) ?_
  refine J.ok (OK.ldBox S1 0 11 3 1 (.int .i64 hi) (by kernel_rfl) rfl (by kernel_rfl)) ?_
  refine J.newSlice S1 12 2 [.int .i64 lo, .int .i64 hi] 3 (by kernel_rfl) ?_
  intro b2 w2 S2
  refine J.run 11 K52_3 [(15, .int .i64 0), (14, .int .i64 (len : Int)), (13, .slice la len cap), (5, .slice (some ⟨b2, 0, none⟩) 2 2), (3, .pointer (some ⟨b1, 0, none⟩))] w2 (by kernel_rfl) ?_
  have S3 : Sep w [rowOf encI (some ⟨b2, 0, none⟩) 2 3 1 ([lo, hi]), box b1 [.int .i64 lo, .int .i64 hi] 47] w2 := box_row encI S2 0 [lo, hi] 1 rfl rfl rfl (by simp [maxLen]) (.inr trivial)
  have L52_1 : ∀ (mm_ : Nat) (ra : Option Addr) (rc : Nat) (ls : List Int) (i : Int) (w3 : World), (0 ≤ i) → (i ≤ (len : Int)) → (ls = ptsT l lo hi i) → Sep w [rowOf encI ra rc 3 1 ls, box b1 [.int .i64 lo, .int .i64 hi] 47] w3 → ((len : Int) - i).toNat = mm_ → J Try.prog 52 35 R K52_3 [(15, .int .i64 i), (14, .int .i64 (len : Int)), (13, .slice la len cap), (5, .slice ra ls.length rc), (3, .pointer (some ⟨b1, 0, none⟩))] w3 := by
    intro mm1
    induction mm1 using Nat.strongRecOn with
    | _ mm1 ih1 =>
    intro ra rc ls i w3 h0 h1 hls S4 hm1
    have hlsl := ptsT_len l lo hi i; rw [← hls] at hlsl
    refine J.run 5 K52_4 [(16, .bool (decide (i < (len : Int)))), (15, .int .i64 i), (14, .int .i64 (len : Int)), (13, .slice la len cap), (5, .slice ra ls.length rc), (3, .pointer (some ⟨b1, 0, none⟩))] w3 (by kernel_rfl) ?_
    by_cases fk1 : i < (len : Int)
    · skip
      refine J.head (.bool true) (congrArg Value.bool (decide_eq_true fk1)) ?_
      refine J.run 6 K52_5 [(15, .int .i64 i), (14, .int .i64 (len : Int)), (13, .slice la len cap), (5, .slice ra ls.length rc), (3, .pointer (some ⟨b1, 0, none⟩))] w3 (by kernel_rfl) ?_
      obtain ⟨p1, hp1, hc1⟩ := hI.at 0 (i).toNat (by omega)
      refine J.ok (OK.index 17 22 1 la p1 len (i).toNat i (p1.add (i).toNat) (by kernel_rfl) (by kernel_rfl) hp1 (by omega) (by omega) (by rw [Nat.mul_one])) ?_
      refine J.ok (OK.ldCell 18 3 (p1.add (i).toNat) (.int .i64 (l.getD (i).toNat 0)) (by kernel_rfl) (by kernel_rfl) (S4.cell hc1)) ?_
      refine J.run 6 K52_6 [(20, .pointer (some ⟨b1, 0, none⟩)), (19, .int .i64 (l.getD (i).toNat 0)), (7, .int .i64 (l.getD (i).toNat 0)), (15, .int .i64 i), (14, .int .i64 (len : Int)), (13, .slice la len cap), (5, .slice ra ls.length rc), (3, .pointer (some ⟨b1, 0, none⟩))] w3 (by kernel_rfl) ?_
      refine J.ok (OK.ldBox S4 1 21 3 0 (.int .i64 lo) (by kernel_rfl) rfl (by kernel_rfl)) ?_
      refine J.run 2 K52_7 [(23, .bool (decide ((l.getD (i).toNat 0) > lo))), (7, .int .i64 (l.getD (i).toNat 0)), (15, .int .i64 i), (14, .int .i64 (len : Int)), (13, .slice la len cap), (5, .slice ra ls.length rc), (3, .pointer (some ⟨b1, 0, none⟩))] w3 (by kernel_rfl) ?_
      by_cases fk2 : (l.getD (i).toNat 0) > lo
      · skip
        refine J.head (.bool true) (congrArg Value.bool (decide_eq_true fk2)) ?_
        refine J.run 2 K52_8 [(25, .pointer (some ⟨b1, 1, none⟩)), (24, .int .i64 (l.getD (i).toNat 0)), (23, .bool true), (7, .int .i64 (l.getD (i).toNat 0)), (15, .int .i64 i), (14, .int .i64 (len : Int)), (13, .slice la len cap), (5, .slice ra ls.length rc), (3, .pointer (some ⟨b1, 0, none⟩))] w3 (by kernel_rfl) ?_
        refine J.ok (OK.ldBox S4 1 26 3 1 (.int .i64 hi) (by kernel_rfl) rfl (by kernel_rfl)) ?_
        refine J.run 3 K52_9 [(28, .bool (decide ((l.getD (i).toNat 0) < hi))), (7, .int .i64 (l.getD (i).toNat 0)), (15, .int .i64 i), (14, .int .i64 (len : Int)), (13, .slice la len cap), (5, .slice ra ls.length rc), (3, .pointer (some ⟨b1, 0, none⟩))] w3 (by kernel_rfl) ?_
        by_cases fk3 : (l.getD (i).toNat 0) < hi
        · skip
          refine J.head (.bool true) (congrArg Value.bool (decide_eq_true fk3)) ?_
          refine J.run 4 K52_10 [(30, .int .i64 (l.getD (i).toNat 0)), (29, .slice ra ls.length rc), (15, .int .i64 i), (14, .int .i64 (len : Int)), (13, .slice la len cap), (3, .pointer (some ⟨b1, 0, none⟩))] w3 (by kernel_rfl) ?_
          refine J.newSlice S4 31 1 [.int .i64 (l.getD (i).toNat 0)] 3 (by kernel_rfl) ?_
          intro b3 w4 S5
          refine J.append encI S5 1 ls (l.getD (i).toNat 0) 32 22 (.int .i64 0) 8 ⟨b3, 0, none⟩ 1 rfl (by kernel_rfl) (by kernel_rfl) (by kernel_rfl) (by kernel_rfl) (by decide) (box_cells (S5.nth 0 rfl)) (by kernel_rfl) (by kernel_rfl) (⟨by omega, by omega⟩) ?_
          intro ra1 rc1 w5 S6
          replace S6 : Sep w [box b3 [.int .i64 (l.getD (i).toNat 0)] 3, rowOf encI ra1 rc1 3 1 (ls ++ [l.getD (i).toNat 0]), box b1 [.int .i64 lo, .int .i64 hi] 47] w5 := S6
          have S7 : Sep w [rowOf encI ra1 rc1 3 1 (ls ++ [l.getD (i).toNat 0]), box b1 [.int .i64 lo, .int .i64 hi] 47] w5 := S6.erase 0
          clear S6
          refine J.run 5 K52_11 [(33, .int .i64 (IntKind.wrap .i64 (i + 1))), (5, .slice ra1 ((ls ++ [l.getD (i).toNat 0]).length) rc1), (14, .int .i64 (len : Int)), (13, .slice la len cap), (3, .pointer (some ⟨b1, 0, none⟩))] w5 (by kernel_rfl) ?_
          refine J.head (.int .i64 (i + 1)) (congrArg (Value.int .i64) (IntWalk.i64_in _ (by omega))) ?_
          refine J.run 3 K52_3 [(15, .int .i64 (i + 1)), (5, .slice ra1 ((ls ++ [l.getD (i).toNat 0]).length) rc1), (14, .int .i64 (len : Int)), (13, .slice la len cap), (3, .pointer (some ⟨b1, 0, none⟩))] w5 (by kernel_rfl) ?_
          refine J.run 0 K52_3 [(15, .int .i64 (i + 1)), (14, .int .i64 (len : Int)), (13, .slice la len cap), (5, .slice ra1 ((ls ++ [l.getD (i).toNat 0]).length) rc1), (3, .pointer (some ⟨b1, 0, none⟩))] w5 (by kernel_rfl) ?_
          exact ih1 _ (show ((len : Int) - (i + 1)).toNat < mm1 from by omega) ra1 rc1 (ls ++ [l.getD (i).toNat 0]) (i + 1) w5 (by omega) (by omega) (by rw [hls, ptsT_yes h0 (by omega) (by omega) (by omega)]) S7 rfl
        · skip
          refine J.head (.bool false) (congrArg Value.bool (decide_eq_false fk3)) ?_
          refine J.run 5 K52_12 [(33, .int .i64 (IntKind.wrap .i64 (i + 1))), (14, .int .i64 (len : Int)), (13, .slice la len cap), (5, .slice ra ls.length rc), (3, .pointer (some ⟨b1, 0, none⟩))] w3 (by kernel_rfl) ?_
          refine J.head (.int .i64 (i + 1)) (congrArg (Value.int .i64) (IntWalk.i64_in _ (by omega))) ?_
          refine J.run 3 K52_3 [(15, .int .i64 (i + 1)), (14, .int .i64 (len : Int)), (13, .slice la len cap), (5, .slice ra ls.length rc), (3, .pointer (some ⟨b1, 0, none⟩))] w3 (by kernel_rfl) ?_
          refine J.run 0 K52_3 [(15, .int .i64 (i + 1)), (14, .int .i64 (len : Int)), (13, .slice la len cap), (5, .slice ra ls.length rc), (3, .pointer (some ⟨b1, 0, none⟩))] w3 (by kernel_rfl) ?_
          exact ih1 _ (show ((len : Int) - (i + 1)).toNat < mm1 from by omega) ra rc ls (i + 1) w3 (by omega) (by omega) (by rw [hls, ptsT_no h0 (by omega) (by omega)]) S4 rfl
      · skip
        refine J.head (.bool false) (congrArg Value.bool (decide_eq_false fk2)) ?_
        refine J.run 11 K52_13 [(33, .int .i64 (IntKind.wrap .i64 (i + 1))), (14, .int .i64 (len : Int)), (13, .slice la len cap), (5, .slice ra ls.length rc), (3, .pointer (some ⟨b1, 0, none⟩))] w3 (by kernel_rfl) ?_
        refine J.head (.int .i64 (i + 1)) (congrArg (Value.int .i64) (IntWalk.i64_in _ (by omega))) ?_
        refine J.run 3 K52_3 [(15, .int .i64 (i + 1)), (14, .int .i64 (len : Int)), (13, .slice la len cap), (5, .slice ra ls.length rc), (3, .pointer (some ⟨b1, 0, none⟩))] w3 (by kernel_rfl) ?_
        refine J.run 0 K52_3 [(15, .int .i64 (i + 1)), (14, .int .i64 (len : Int)), (13, .slice la len cap), (5, .slice ra ls.length rc), (3, .pointer (some ⟨b1, 0, none⟩))] w3 (by kernel_rfl) ?_
        exact ih1 _ (show ((len : Int) - (i + 1)).toNat < mm1 from by omega) ra rc ls (i + 1) w3 (by omega) (by omega) (by rw [hls, ptsT_no h0 (by omega) (by omega)]) S4 rfl
    · skip
      refine J.head (.bool false) (congrArg Value.bool (decide_eq_false fk1)) ?_
      refine J.run 7 K52_14 [(4, .slice ra ls.length rc)] w3 (by kernel_rfl) ?_
      refine J.ret Try.f52 [.slice ra ls.length rc] Try.func52 ⟨by kernel_rfl, trivial⟩ ?_
      refine hR _ _ ?_
      have e_ : ls = ptsF l lo hi := by rw [hls]; exact ptsT_end (by omega)
      subst e_
      exact ⟨_, _, rfl, S4.pick 0 rfl⟩
  exact L52_1 _ (some ⟨b2, 0, none⟩) 2 ([lo, hi]) 0 w2 (by omega) (by omega) (rfl) S3 rfl

theorem hb56 : HasBody Try.prog 56 := fun _ _ => by kernel_rfl
noncomputable def K56_0 : List Item := adv 2 [] (bodyOf Try.f56)
noncomputable def K56_1 : List Item := adv 5 [] (popK K56_0)
noncomputable def K56_2 : List Item := adv 1 [] (popK K56_1)
noncomputable def K56_3 : List Item := adv 9 [] (popK (popK K56_2))
noncomputable def K56_4 : List Item := adv 8 [] K56_3
noncomputable def K56_5 : List Item := adv 5 [true] K56_4
noncomputable def K56_6 : List Item := adv 5 [true] (rRest K56_5)
noncomputable def K56_7 : List Item := adv 6 [] (popK (popK (popK (popK K56_6))))
noncomputable def K56_8 : List Item := adv 6 [false] (rRest K56_5)
noncomputable def K56_9 : List Item := adv 6 [false] (rRest K56_5)
noncomputable def K56_10 : List Item := adv 7 [false] K56_4
set_option maxRecDepth 20000 in
set_option maxHeartbeats 20000000 in
theorem corners_any (la : Option Addr) (len cap : Nat) (l : List Int) (lo hi : Int) (w : World) (hI : Ints w la len l) (hlen : len ≤ 9223372036854775807) (hsm : len ≤ 4096) : Ret Try.prog 56 #[.slice la len cap, .agg #[.int .i64 lo, .int .i64 hi]] w (fun v w' => ∃ a cap, v = .slice a (ptsF l lo hi).length cap ∧ Sep w [rowOf encI a cap 3 1 (ptsF l lo hi)] w') := by
  have S0 := Sep.refl w
  refine Ret.named fun R hR => ?_
  refine Ret.of_J (N := 42) [(0, .slice la len cap), (1, .agg #[.int .i64 lo, .int .i64 hi])] Try.func56 rfl rfl (Nat.le_of_ble_eq_true (by kernel_rfl)) (by kernel_rfl) ?_
  have hll := hI.len_eq
  refine J.run 2 K56_0 [(0, .slice la len cap), (1, .agg #[.int .i64 lo, .int .i64 hi])] w (by kernel_rfl) ?_
  refine J.new S0 3 [.int .i64 lo, .int .i64 hi] 47 (by kernel_rfl) ?_
  intro b1 w1 S1
  refine J.run 5 K56_1 [(7, .pointer (some ⟨b1, 0, none⟩)), (3, .pointer (some ⟨b1, 0, none⟩)), (0, .slice la len cap)] w1 (by kernel_rfl) ?_
  refine J.ok (OK.ldBox S1 0 8 3 0 (.int .i64 lo) (by kernel_rfl) rfl (by kernel_rfl)) ?_
  refine J.run 1 K56_2 [(9, .pointer (some ⟨b1, 1, none⟩)), (8, .int .i64 lo), (3, .pointer (some ⟨b1, 0, none⟩)), (0, .slice la len cap)] w1 (by kernel_rfl) ?_
  refine J.ok (OK.ldBox S1 0 10 3 1 (.int .i64 hi) (by kernel_rfl) rfl (by kernel_rfl)) ?_
  refine J.newSlice S1 11 2 [.int .i64 lo, .int .i64 hi] 3 (by kernel_rfl) ?_
  intro b2 w2 S2
  refine J.run 9 K56_3 [(6, .int .i64 0), (5, .slice (some ⟨b2, 0, none⟩) 2 2), (3, .pointer (some ⟨b1, 0, none⟩)), (0, .slice la len cap)] w2 (by kernel_rfl) ?_
  have S3 : Sep w [rowOf encI (some ⟨b2, 0, none⟩) 2 3 1 ([lo, hi]), box b1 [.int .i64 lo, .int .i64 hi] 47] w2 := box_row encI S2 0 [lo, hi] 1 rfl rfl rfl (by simp [maxLen]) (.inr trivial)
  have L56_1 : ∀ (mm_ : Nat) (ra : Option Addr) (rc : Nat) (ls : List Int) (i : Int) (w3 : World), (0 ≤ i) → (i ≤ (len : Int)) → (ls = ptsT l lo hi i) → Sep w [rowOf encI ra rc 3 1 ls, box b1 [.int .i64 lo, .int .i64 hi] 47] w3 → ((len : Int) - i).toNat = mm_ → J Try.prog 56 42 R K56_3 [(6, .int .i64 i), (5, .slice ra ls.length rc), (3, .pointer (some ⟨b1, 0, none⟩)), (0, .slice la len cap)] w3 := by
    intro mm1
    induction mm1 using Nat.strongRecOn with
    | _ mm1 ih1 =>
    intro ra rc ls i w3 h0 h1 hls S4 hm1
    have hlsl := ptsT_len l lo hi i; rw [← hls] at hlsl
    refine J.run 8 K56_4 [(15, .bool (decide (i < (len : Int)))), (6, .int .i64 i), (5, .slice ra ls.length rc), (3, .pointer (some ⟨b1, 0, none⟩)), (0, .slice la len cap)] w3 (by kernel_rfl) ?_
    by_cases fk1 : i < (len : Int)
    · skip
      refine J.head (.bool true) (congrArg Value.bool (decide_eq_true fk1)) ?_
      refine J.run 5 K56_5 [(6, .int .i64 i), (5, .slice ra ls.length rc), (3, .pointer (some ⟨b1, 0, none⟩)), (0, .slice la len cap)] w3 (by kernel_rfl) ?_
      by_cases fk2 : (l.getD (i).toNat 0) > lo
      · skip
        obtain ⟨p1, hp1, hc1⟩ := hI.at 0 (i).toNat (by omega)
        refine J.drawStill S4 16 Try.mixed (by kernel_rfl) (by kernel_rfl) (by kernel_rfl) ?_
        intro w4 S5
        refine SL.ok (by decide) (OK.run 18 (.slice la len cap) (by kernel_rfl)) ?_
        refine SL.ok (by decide) (OK.run 19 (.int .i64 i) (by kernel_rfl)) ?_
        refine SL.ok (by decide) (OK.index 20 22 1 la p1 len (i).toNat i (p1.add (i).toNat) (by kernel_rfl) (by kernel_rfl) hp1 (by omega) (by omega) (by rw [Nat.mul_one])) ?_
        refine SL.ok (by decide) (OK.ldCell 21 3 (p1.add (i).toNat) (.int .i64 (l.getD (i).toNat 0)) (by kernel_rfl) (by kernel_rfl) (S5.cell hc1)) ?_
        refine SL.ok (by decide) (OK.run 22 (.pointer (some ⟨b1, 0, none⟩)) (by kernel_rfl)) ?_
        refine SL.ok (by decide) (OK.ldBox S5 1 23 3 0 (.int .i64 lo) (by kernel_rfl) rfl (by kernel_rfl)) ?_
        refine SL.ok (by decide) (OK.run 24 (.bool (decide ((l.getD (i).toNat 0) > lo))) (by kernel_rfl)) ?_
        refine SL.head (.bool true) (congrArg Value.bool (decide_eq_true fk2)) ?_
        refine SL.ok (by decide) (OK.run 25 (.bool true) (by kernel_rfl)) ?_
        refine SL.ok (by decide) (OK.run 26 (.slice la len cap) (by kernel_rfl)) ?_
        refine SL.ok (by decide) (OK.run 27 (.int .i64 i) (by kernel_rfl)) ?_
        refine SL.ok (by decide) (OK.index 28 22 1 la p1 len (i).toNat i (p1.add (i).toNat) (by kernel_rfl) (by kernel_rfl) hp1 (by omega) (by omega) (by rw [Nat.mul_one])) ?_
        refine SL.ok (by decide) (OK.ldCell 29 3 (p1.add (i).toNat) (.int .i64 (l.getD (i).toNat 0)) (by kernel_rfl) (by kernel_rfl) (S5.cell hc1)) ?_
        refine SL.ok (by decide) (OK.run 30 (.pointer (some ⟨b1, 1, none⟩)) (by kernel_rfl)) ?_
        refine SL.ok (by decide) (OK.ldBox S5 1 31 3 1 (.int .i64 hi) (by kernel_rfl) rfl (by kernel_rfl)) ?_
        refine SL.ok (by decide) (OK.run 32 (.bool (decide ((l.getD (i).toNat 0) < hi))) (by kernel_rfl)) ?_
        refine SL.ok (by decide) (OK.run 33 (.bool (decide ((l.getD (i).toNat 0) < hi))) (by kernel_rfl)) ?_
        refine SL.done ?_
        refine TL.done (by kernel_rfl) ?_
        refine J.run 0 (rRest K56_5) [(33, .bool (decide ((l.getD (i).toNat 0) < hi))), (6, .int .i64 i), (5, .slice ra ls.length rc), (3, .pointer (some ⟨b1, 0, none⟩)), (0, .slice la len cap)] w4 (by kernel_rfl) ?_
        by_cases fk3 : (l.getD (i).toNat 0) < hi
        · skip
          refine J.head (.bool true) (congrArg Value.bool (decide_eq_true fk3)) ?_
          refine J.run 5 K56_6 [(36, .int .i64 i), (35, .slice la len cap), (34, .slice ra ls.length rc), (6, .int .i64 i), (3, .pointer (some ⟨b1, 0, none⟩)), (0, .slice la len cap)] w4 (by kernel_rfl) ?_
          refine J.ok (OK.index 37 22 1 la p1 len (i).toNat i (p1.add (i).toNat) (by kernel_rfl) (by kernel_rfl) hp1 (by omega) (by omega) (by rw [Nat.mul_one])) ?_
          refine J.ok (OK.ldCell 38 3 (p1.add (i).toNat) (.int .i64 (l.getD (i).toNat 0)) (by kernel_rfl) (by kernel_rfl) (S5.cell hc1)) ?_
          refine J.newSlice S5 39 1 [.int .i64 (l.getD (i).toNat 0)] 3 (by kernel_rfl) ?_
          intro b3 w5 S6
          refine J.append encI S6 1 ls (l.getD (i).toNat 0) 40 22 (.int .i64 0) 8 ⟨b3, 0, none⟩ 1 rfl (by kernel_rfl) (by kernel_rfl) (by kernel_rfl) (by kernel_rfl) (by decide) (box_cells (S6.nth 0 rfl)) (by kernel_rfl) (by kernel_rfl) (⟨by omega, by omega⟩) ?_
          intro ra1 rc1 w6 S7
          replace S7 : Sep w [box b3 [.int .i64 (l.getD (i).toNat 0)] 3, rowOf encI ra1 rc1 3 1 (ls ++ [l.getD (i).toNat 0]), box b1 [.int .i64 lo, .int .i64 hi] 47] w6 := S7
          have S8 : Sep w [rowOf encI ra1 rc1 3 1 (ls ++ [l.getD (i).toNat 0]), box b1 [.int .i64 lo, .int .i64 hi] 47] w6 := S7.erase 0
          clear S7
          refine J.run 6 K56_7 [(17, .int .i64 (IntKind.wrap .i64 (i + 1))), (5, .slice ra1 ((ls ++ [l.getD (i).toNat 0]).length) rc1), (3, .pointer (some ⟨b1, 0, none⟩)), (0, .slice la len cap)] w6 (by kernel_rfl) ?_
          refine J.head (.int .i64 (i + 1)) (congrArg (Value.int .i64) (IntWalk.i64_in _ (by omega))) ?_
          refine J.run 3 K56_3 [(6, .int .i64 (i + 1)), (5, .slice ra1 ((ls ++ [l.getD (i).toNat 0]).length) rc1), (3, .pointer (some ⟨b1, 0, none⟩)), (0, .slice la len cap)] w6 (by kernel_rfl) ?_
          refine J.run 0 K56_3 [(6, .int .i64 (i + 1)), (5, .slice ra1 ((ls ++ [l.getD (i).toNat 0]).length) rc1), (3, .pointer (some ⟨b1, 0, none⟩)), (0, .slice la len cap)] w6 (by kernel_rfl) ?_
          exact ih1 _ (show ((len : Int) - (i + 1)).toNat < mm1 from by omega) ra1 rc1 (ls ++ [l.getD (i).toNat 0]) (i + 1) w6 (by omega) (by omega) (by rw [hls, ptsT_yes h0 (by omega) (by omega) (by omega)]) S8 rfl
        · skip
          refine J.head (.bool false) (congrArg Value.bool (decide_eq_false fk3)) ?_
          refine J.run 6 K56_8 [(17, .int .i64 (IntKind.wrap .i64 (i + 1))), (5, .slice ra ls.length rc), (3, .pointer (some ⟨b1, 0, none⟩)), (0, .slice la len cap)] w4 (by kernel_rfl) ?_
          refine J.head (.int .i64 (i + 1)) (congrArg (Value.int .i64) (IntWalk.i64_in _ (by omega))) ?_
          refine J.run 3 K56_3 [(6, .int .i64 (i + 1)), (5, .slice ra ls.length rc), (3, .pointer (some ⟨b1, 0, none⟩)), (0, .slice la len cap)] w4 (by kernel_rfl) ?_
          refine J.run 0 K56_3 [(6, .int .i64 (i + 1)), (5, .slice ra ls.length rc), (3, .pointer (some ⟨b1, 0, none⟩)), (0, .slice la len cap)] w4 (by kernel_rfl) ?_
          exact ih1 _ (show ((len : Int) - (i + 1)).toNat < mm1 from by omega) ra rc ls (i + 1) w4 (by omega) (by omega) (by rw [hls, ptsT_no h0 (by omega) (by omega)]) S5 rfl
      · skip
        obtain ⟨p2, hp2, hc2⟩ := hI.at 0 (i).toNat (by omega)
        refine J.drawStill S4 16 Try.mixed (by kernel_rfl) (by kernel_rfl) (by kernel_rfl) ?_
        intro w7 S9
        refine SL.ok (by decide) (OK.run 18 (.slice la len cap) (by kernel_rfl)) ?_
        refine SL.ok (by decide) (OK.run 19 (.int .i64 i) (by kernel_rfl)) ?_
        refine SL.ok (by decide) (OK.index 20 22 1 la p2 len (i).toNat i (p2.add (i).toNat) (by kernel_rfl) (by kernel_rfl) hp2 (by omega) (by omega) (by rw [Nat.mul_one])) ?_
        refine SL.ok (by decide) (OK.ldCell 21 3 (p2.add (i).toNat) (.int .i64 (l.getD (i).toNat 0)) (by kernel_rfl) (by kernel_rfl) (S9.cell hc2)) ?_
        refine SL.ok (by decide) (OK.run 22 (.pointer (some ⟨b1, 0, none⟩)) (by kernel_rfl)) ?_
        refine SL.ok (by decide) (OK.ldBox S9 1 23 3 0 (.int .i64 lo) (by kernel_rfl) rfl (by kernel_rfl)) ?_
        refine SL.ok (by decide) (OK.run 24 (.bool (decide ((l.getD (i).toNat 0) > lo))) (by kernel_rfl)) ?_
        refine SL.head (.bool false) (congrArg Value.bool (decide_eq_false fk2)) ?_
        refine SL.ok (by decide) (OK.run 25 (.bool false) (by kernel_rfl)) ?_
        refine SL.pass (d := some 26) (by decide) (by kernel_rfl) ?_
        refine SL.pass (d := some 27) (by decide) (by kernel_rfl) ?_
        refine SL.pass (d := some 28) (by decide) (by kernel_rfl) ?_
        refine SL.pass (d := some 29) (by decide) (by kernel_rfl) ?_
        refine SL.pass (d := some 30) (by decide) (by kernel_rfl) ?_
        refine SL.pass (d := some 31) (by decide) (by kernel_rfl) ?_
        refine SL.pass (d := some 32) (by decide) (by kernel_rfl) ?_
        refine SL.ok (by decide) (OK.run 33 (.bool false) (by kernel_rfl)) ?_
        refine SL.done ?_
        refine TL.done (by kernel_rfl) ?_
        refine J.run 0 (rRest K56_5) [(33, .bool false), (6, .int .i64 i), (5, .slice ra ls.length rc), (3, .pointer (some ⟨b1, 0, none⟩)), (0, .slice la len cap)] w7 (by kernel_rfl) ?_
        refine J.run 6 K56_9 [(17, .int .i64 (IntKind.wrap .i64 (i + 1))), (5, .slice ra ls.length rc), (3, .pointer (some ⟨b1, 0, none⟩)), (0, .slice la len cap)] w7 (by kernel_rfl) ?_
        refine J.head (.int .i64 (i + 1)) (congrArg (Value.int .i64) (IntWalk.i64_in _ (by omega))) ?_
        refine J.run 3 K56_3 [(6, .int .i64 (i + 1)), (5, .slice ra ls.length rc), (3, .pointer (some ⟨b1, 0, none⟩)), (0, .slice la len cap)] w7 (by kernel_rfl) ?_
        refine J.run 0 K56_3 [(6, .int .i64 (i + 1)), (5, .slice ra ls.length rc), (3, .pointer (some ⟨b1, 0, none⟩)), (0, .slice la len cap)] w7 (by kernel_rfl) ?_
        exact ih1 _ (show ((len : Int) - (i + 1)).toNat < mm1 from by omega) ra rc ls (i + 1) w7 (by omega) (by omega) (by rw [hls, ptsT_no h0 (by omega) (by omega)]) S9 rfl
    · skip
      refine J.head (.bool false) (congrArg Value.bool (decide_eq_false fk1)) ?_
      refine J.run 7 K56_10 [(4, .slice ra ls.length rc)] w3 (by kernel_rfl) ?_
      refine J.ret Try.f56 [.slice ra ls.length rc] Try.func56 ⟨by kernel_rfl, trivial⟩ ?_
      refine hR _ _ ?_
      have e_ : ls = ptsF l lo hi := by rw [hls]; exact ptsT_end (by omega)
      subst e_
      exact ⟨_, _, rfl, S4.pick 0 rfl⟩
  exact L56_1 _ (some ⟨b2, 0, none⟩) 2 ([lo, hi]) 0 w2 (by omega) (by omega) (rfl) S3 rfl

theorem hb54 : HasBody Try.prog 54 := fun _ _ => by kernel_rfl
noncomputable def K54_0 : List Item := adv 11 [] (bodyOf Try.f54)
noncomputable def K54_1 : List Item := adv 5 [false] K54_0
noncomputable def K54_2 : List Item := adv 9 [] (popK (popK K54_1))
noncomputable def K54_3 : List Item := adv 8 [] K54_2
noncomputable def K54_4 : List Item := adv 8 [true] K54_3
noncomputable def K54_5 : List Item := adv 1 [] (popK (popK K54_4))
noncomputable def K54_6 : List Item := adv 6 [] K54_5
noncomputable def K54_7 : List Item := adv 7 [false] K54_3
set_option maxRecDepth 20000 in
set_option maxHeartbeats 20000000 in
theorem min_any (la : Option Addr) (len cap : Nat) (l : List Int) (w : World) (hI : Ints w la len l) (hlen : len ≤ 9223372036854775807) (hpos : 0 < len) : Ret Try.prog 54 #[.slice la len cap] w (fun v w' => v = .int .i64 (minF (l.getD 0 0) l) ∧ Sep w [] w') := by
  have S0 := Sep.refl w
  refine Ret.named fun R hR => ?_
  refine Ret.of_J (N := 25) [(0, .slice la len cap)] Try.func54 rfl rfl (Nat.le_of_ble_eq_true (by kernel_rfl)) (by kernel_rfl) ?_
  have hll := hI.len_eq
  refine J.run 11 K54_0 [(7, .bool (decide ((len : Int) < 1))), (0, .slice la len cap)] w (by kernel_rfl) ?_
  have fk2 : ¬ ((len : Int) < 1) := by omega
  refine J.head (.bool false) (congrArg Value.bool (decide_eq_false fk2)) ?_
  refine J.run 5 K54_1 [(9, .slice la len cap), (0, .slice la len cap)] w (by kernel_rfl) ?_
  obtain ⟨p1, hp1, hc1⟩ := hI.at 0 0 (by omega)
  refine J.ok (OK.index 10 22 1 la p1 len 0 0 (p1.add 0) (by kernel_rfl) (by kernel_rfl) hp1 (by omega) (by omega) (by rw [Nat.mul_one])) ?_
  refine J.ok (OK.ldCell 11 3 (p1.add 0) (.int .i64 (l.getD 0 0)) (by kernel_rfl) (by kernel_rfl) (S0.cell hc1)) ?_
  refine J.run 9 K54_2 [(4, .int .i64 1), (3, .int .i64 (l.getD 0 0)), (0, .slice la len cap)] w (by kernel_rfl) ?_
  have L54_1 : ∀ (mm_ : Nat) (mv : Int) (i : Int) (w1 : World), (1 ≤ i) → (i ≤ (len : Int)) → (mv = minF (l.getD 0 0) (l.take (i).toNat)) → Sep w [] w1 → ((len : Int) - i).toNat = mm_ → J Try.prog 54 25 R K54_2 [(4, .int .i64 i), (3, .int .i64 mv), (0, .slice la len cap)] w1 := by
    intro mm1
    induction mm1 using Nat.strongRecOn with
    | _ mm1 ih1 =>
    intro mv i w1 h0 h1 hmv S1 hm1
    refine J.run 8 K54_3 [(15, .bool (decide (i < (len : Int)))), (4, .int .i64 i), (3, .int .i64 mv), (0, .slice la len cap)] w1 (by kernel_rfl) ?_
    by_cases fk3 : i < (len : Int)
    · skip
      refine J.head (.bool true) (congrArg Value.bool (decide_eq_true fk3)) ?_
      refine J.run 8 K54_4 [(20, .int .i64 i), (19, .slice la len cap), (18, .int .i64 mv), (4, .int .i64 i), (0, .slice la len cap)] w1 (by kernel_rfl) ?_
      obtain ⟨p2, hp2, hc2⟩ := hI.at 0 (i).toNat (by omega)
      refine J.ok (OK.index 21 22 1 la p2 len (i).toNat i (p2.add (i).toNat) (by kernel_rfl) (by kernel_rfl) hp2 (by omega) (by omega) (by rw [Nat.mul_one])) ?_
      refine J.ok (OK.ldCell 22 3 (p2.add (i).toNat) (.int .i64 (l.getD (i).toNat 0)) (by kernel_rfl) (by kernel_rfl) (S1.cell hc2)) ?_
      refine J.run 1 K54_5 [(23, .int .i64 (if (l.getD (i).toNat 0) < mv then (l.getD (i).toNat 0) else mv)), (4, .int .i64 i), (0, .slice la len cap)] w1 (by kernel_rfl) ?_
      refine J.head (.int .i64 (min mv (l.getD (i).toNat 0))) (congrArg (Value.int .i64) (by omega)) ?_
      refine J.run 6 K54_6 [(17, .int .i64 (IntKind.wrap .i64 (i + 1))), (3, .int .i64 (min mv (l.getD (i).toNat 0))), (0, .slice la len cap)] w1 (by kernel_rfl) ?_
      refine J.head (.int .i64 (i + 1)) (congrArg (Value.int .i64) (IntWalk.i64_in _ (by omega))) ?_
      refine J.run 3 K54_2 [(4, .int .i64 (i + 1)), (3, .int .i64 (min mv (l.getD (i).toNat 0))), (0, .slice la len cap)] w1 (by kernel_rfl) ?_
      refine J.run 0 K54_2 [(4, .int .i64 (i + 1)), (3, .int .i64 (min mv (l.getD (i).toNat 0))), (0, .slice la len cap)] w1 (by kernel_rfl) ?_
      exact ih1 _ (show ((len : Int) - (i + 1)).toNat < mm1 from by omega) (min mv (l.getD (i).toNat 0)) (i + 1) w1 (by omega) (by omega) (by rw [hmv, minF_take (by omega) (by omega)]) S1 rfl
    · skip
      refine J.head (.bool false) (congrArg Value.bool (decide_eq_false fk3)) ?_
      refine J.run 7 K54_7 [(2, .int .i64 mv)] w1 (by kernel_rfl) ?_
      refine J.ret Try.f54 [.int .i64 mv] Try.func54 ⟨by kernel_rfl, trivial⟩ ?_
      refine hR _ _ ?_
      exact ⟨congrArg (Value.int .i64) (by rw [hmv, List.take_of_length_le (by omega)]), S1.nil⟩
  exact L54_1 _ (l.getD 0 0) 1 w (by omega) (by omega) (by rw [show ((1 : Int)).toNat = 1 from rfl, one_take (by omega)]; simp [minF]) S0 rfl

theorem hb55 : HasBody Try.prog 55 := fun _ _ => by kernel_rfl
noncomputable def K55_0 : List Item := adv 11 [] (bodyOf Try.f55)
noncomputable def K55_1 : List Item := adv 5 [false] K55_0
noncomputable def K55_2 : List Item := adv 9 [] (popK (popK K55_1))
noncomputable def K55_3 : List Item := adv 8 [] K55_2
noncomputable def K55_4 : List Item := adv 8 [true] K55_3
noncomputable def K55_5 : List Item := adv 1 [] (popK (popK K55_4))
noncomputable def K55_6 : List Item := adv 6 [] K55_5
noncomputable def K55_7 : List Item := adv 7 [false] K55_3
set_option maxRecDepth 20000 in
set_option maxHeartbeats 20000000 in
theorem max_any (la : Option Addr) (len cap : Nat) (l : List Int) (w : World) (hI : Ints w la len l) (hlen : len ≤ 9223372036854775807) (hpos : 0 < len) : Ret Try.prog 55 #[.slice la len cap] w (fun v w' => v = .int .i64 (maxF (l.getD 0 0) l) ∧ Sep w [] w') := by
  have S0 := Sep.refl w
  refine Ret.named fun R hR => ?_
  refine Ret.of_J (N := 25) [(0, .slice la len cap)] Try.func55 rfl rfl (Nat.le_of_ble_eq_true (by kernel_rfl)) (by kernel_rfl) ?_
  have hll := hI.len_eq
  refine J.run 11 K55_0 [(7, .bool (decide ((len : Int) < 1))), (0, .slice la len cap)] w (by kernel_rfl) ?_
  have fk2 : ¬ ((len : Int) < 1) := by omega
  refine J.head (.bool false) (congrArg Value.bool (decide_eq_false fk2)) ?_
  refine J.run 5 K55_1 [(9, .slice la len cap), (0, .slice la len cap)] w (by kernel_rfl) ?_
  obtain ⟨p1, hp1, hc1⟩ := hI.at 0 0 (by omega)
  refine J.ok (OK.index 10 22 1 la p1 len 0 0 (p1.add 0) (by kernel_rfl) (by kernel_rfl) hp1 (by omega) (by omega) (by rw [Nat.mul_one])) ?_
  refine J.ok (OK.ldCell 11 3 (p1.add 0) (.int .i64 (l.getD 0 0)) (by kernel_rfl) (by kernel_rfl) (S0.cell hc1)) ?_
  refine J.run 9 K55_2 [(4, .int .i64 1), (3, .int .i64 (l.getD 0 0)), (0, .slice la len cap)] w (by kernel_rfl) ?_
  have L55_1 : ∀ (mm_ : Nat) (mv : Int) (i : Int) (w1 : World), (1 ≤ i) → (i ≤ (len : Int)) → (mv = maxF (l.getD 0 0) (l.take (i).toNat)) → Sep w [] w1 → ((len : Int) - i).toNat = mm_ → J Try.prog 55 25 R K55_2 [(4, .int .i64 i), (3, .int .i64 mv), (0, .slice la len cap)] w1 := by
    intro mm1
    induction mm1 using Nat.strongRecOn with
    | _ mm1 ih1 =>
    intro mv i w1 h0 h1 hmv S1 hm1
    refine J.run 8 K55_3 [(15, .bool (decide (i < (len : Int)))), (4, .int .i64 i), (3, .int .i64 mv), (0, .slice la len cap)] w1 (by kernel_rfl) ?_
    by_cases fk3 : i < (len : Int)
    · skip
      refine J.head (.bool true) (congrArg Value.bool (decide_eq_true fk3)) ?_
      refine J.run 8 K55_4 [(20, .int .i64 i), (19, .slice la len cap), (18, .int .i64 mv), (4, .int .i64 i), (0, .slice la len cap)] w1 (by kernel_rfl) ?_
      obtain ⟨p2, hp2, hc2⟩ := hI.at 0 (i).toNat (by omega)
      refine J.ok (OK.index 21 22 1 la p2 len (i).toNat i (p2.add (i).toNat) (by kernel_rfl) (by kernel_rfl) hp2 (by omega) (by omega) (by rw [Nat.mul_one])) ?_
      refine J.ok (OK.ldCell 22 3 (p2.add (i).toNat) (.int .i64 (l.getD (i).toNat 0)) (by kernel_rfl) (by kernel_rfl) (S1.cell hc2)) ?_
      refine J.run 1 K55_5 [(23, .int .i64 (if (l.getD (i).toNat 0) > mv then (l.getD (i).toNat 0) else mv)), (4, .int .i64 i), (0, .slice la len cap)] w1 (by kernel_rfl) ?_
      refine J.head (.int .i64 (max mv (l.getD (i).toNat 0))) (congrArg (Value.int .i64) (by omega)) ?_
      refine J.run 6 K55_6 [(17, .int .i64 (IntKind.wrap .i64 (i + 1))), (3, .int .i64 (max mv (l.getD (i).toNat 0))), (0, .slice la len cap)] w1 (by kernel_rfl) ?_
      refine J.head (.int .i64 (i + 1)) (congrArg (Value.int .i64) (IntWalk.i64_in _ (by omega))) ?_
      refine J.run 3 K55_2 [(4, .int .i64 (i + 1)), (3, .int .i64 (max mv (l.getD (i).toNat 0))), (0, .slice la len cap)] w1 (by kernel_rfl) ?_
      refine J.run 0 K55_2 [(4, .int .i64 (i + 1)), (3, .int .i64 (max mv (l.getD (i).toNat 0))), (0, .slice la len cap)] w1 (by kernel_rfl) ?_
      exact ih1 _ (show ((len : Int) - (i + 1)).toNat < mm1 from by omega) (max mv (l.getD (i).toNat 0)) (i + 1) w1 (by omega) (by omega) (by rw [hmv, maxF_take (by omega) (by omega)]) S1 rfl
    · skip
      refine J.head (.bool false) (congrArg Value.bool (decide_eq_false fk3)) ?_
      refine J.run 7 K55_7 [(2, .int .i64 mv)] w1 (by kernel_rfl) ?_
      refine J.ret Try.f55 [.int .i64 mv] Try.func55 ⟨by kernel_rfl, trivial⟩ ?_
      refine hR _ _ ?_
      exact ⟨congrArg (Value.int .i64) (by rw [hmv, List.take_of_length_le (by omega)]), S1.nil⟩
  exact L55_1 _ (l.getD 0 0) 1 w (by omega) (by omega) (by rw [show ((1 : Int)).toNat = 1 from rfl, one_take (by omega)]; simp [maxF]) S0 rfl

theorem hb66 : HasBody Try.prog 66 := fun _ _ => by kernel_rfl
noncomputable def K66_0 : List Item := adv 10 [] (bodyOf Try.f66)
noncomputable def K66_1 : List Item := adv 12 [false] K66_0
noncomputable def K66_2 : List Item := adv 7 [] K66_1
noncomputable def K66_3 : List Item := adv 5 [true] K66_2
noncomputable def K66_4 : List Item := adv 1 [] (popK K66_3)
noncomputable def K66_5 : List Item := adv 2 [] (popK K66_4)
noncomputable def K66_6 : List Item := adv 7 [] (popK K66_5)
noncomputable def K66_7 : List Item := adv 7 [false] K66_2
set_option maxRecDepth 20000 in
set_option maxHeartbeats 20000000 in
theorem grow_any (n : Int) (w : World) (hn : 0 ≤ n ∧ n ≤ 1099511627776) : Ret Try.prog 66 #[.slice none 0 0, .int .i64 n] w (fun v w' => ∃ a cap, v = .slice a 0 cap ∧ Sep w [rowOf encI a cap 3 1 []] w') := by
  have S0 := Sep.refl w
  refine Ret.named fun R hR => ?_
  refine Ret.of_J (N := 27) [(0, .slice none 0 0), (1, .int .i64 n)] Try.func66 rfl rfl (Nat.le_of_ble_eq_true (by kernel_rfl)) (by kernel_rfl) ?_
  refine J.run 10 K66_0 [(6, .bool (decide (n < 0))), (0, .slice none 0 0), (1, .int .i64 n)] w (by kernel_rfl) ?_
  have fk2 : ¬ (n < 0) := by omega
  refine J.head (.bool false) (congrArg Value.bool (decide_eq_false fk2)) ?_
  refine J.run 12 K66_1 [(14, .int .i64 (IntKind.wrap .i64 (n - 0))), (0, .slice none 0 0)] w (by kernel_rfl) ?_
  refine J.head (.int .i64 (n - 0)) (congrArg (Value.int .i64) (IntWalk.i64_in _ (by omega))) ?_
  refine J.run 7 K66_2 [(16, .bool (decide ((n - 0) > 0))), (1, .int .i64 (n - 0)), (0, .slice none 0 0)] w (by kernel_rfl) ?_
  by_cases fk3 : (n - 0) > 0
  · skip
    refine J.head (.bool true) (congrArg Value.bool (decide_eq_true fk3)) ?_
    refine J.run 5 K66_3 [(19, .int .i64 0), (17, .slice none 0 0), (1, .int .i64 (n - 0)), (0, .slice none 0 0)] w (by kernel_rfl) ?_
    refine J.ok (OK.slice 20 22 1 none 0 0 none (some (.int .i64 0)) 0 0 (by kernel_rfl) (by kernel_rfl) (.inl ⟨rfl, rfl⟩) (.inr ⟨_, _, rfl, rfl⟩) (by first | omega | (simp; omega)) (by first | omega | (simp; omega))) ?_
    refine J.head (.slice none 0 0) (by rw [subA_zero]; try rfl) ?_
    refine J.run 1 K66_4 [(21, .int .i64 (n - 0)), (20, .slice none 0 0), (0, .slice none 0 0)] w (by kernel_rfl) ?_
    refine J.appz encI (0 : Int) S0 22 22 3 3 1 .i64 .i64 (n - 0) (n - 0).toNat (.int .i64 0) 8 (by kernel_rfl) (by omega) (by omega) (by kernel_rfl) (by kernel_rfl) (by kernel_rfl) (by kernel_rfl) (by decide) (by rfl) (⟨by omega, by omega⟩) ?_
    intro b1 rc1 w1 S1
    refine J.run 2 K66_5 [(24, .int .i64 0), (22, .slice (some ⟨b1, 0, none⟩) ((List.replicate (n - 0).toNat (0 : Int)).length) rc1)] w1 (by kernel_rfl) ?_
    have := (rowOf_cells (S1.nth 0 rfl)).2.2
    refine J.ok (OK.slice 25 22 1 (some ⟨b1, 0, none⟩) ((List.replicate (n - 0).toNat (0 : Int)).length) rc1 none (some (.int .i64 0)) 0 0 (by kernel_rfl) (by kernel_rfl) (.inl ⟨rfl, rfl⟩) (.inr ⟨_, _, rfl, rfl⟩) (by first | omega | (simp; omega)) (by first | omega | (simp; omega))) ?_
    refine J.head (.slice (some ⟨b1, 0, none⟩) 0 rc1) (by rw [subA_zero]; try rfl) ?_
    refine J.run 7 K66_6 [(4, .slice (some ⟨b1, 0, none⟩) 0 rc1)] w1 (by kernel_rfl) ?_
    refine J.ret Try.f66 [.slice (some ⟨b1, 0, none⟩) 0 rc1] Try.func66 ⟨by kernel_rfl, trivial⟩ ?_
    refine hR _ _ ?_
    exact ⟨_, _, rfl, (S1.cut 0 rfl (fun _ => rfl) 0 (Nat.zero_le _)).pick 0 rfl⟩
  · skip
    refine J.head (.bool false) (congrArg Value.bool (decide_eq_false fk3)) ?_
    refine J.run 7 K66_7 [(4, .slice none 0 0)] w (by kernel_rfl) ?_
    refine J.ret Try.f66 [.slice none 0 0] Try.func66 ⟨by kernel_rfl, trivial⟩ ?_
    refine hR _ _ ?_
    exact ⟨none, 0, rfl, S0.nil.nilRow 3 1⟩

theorem hb53 : HasBody Try.prog 53 := fun _ _ => by kernel_rfl
noncomputable def K53_0 : List Item := adv 17 [] (bodyOf Try.f53)
noncomputable def K53_1 : List Item := adv 5 [] K53_0
noncomputable def K53_2 : List Item := adv 6 [true] K53_1
noncomputable def K53_3 : List Item := adv 8 [] (popK (popK K53_2))
noncomputable def K53_4 : List Item := adv 7 [] K53_3
noncomputable def K53_5 : List Item := adv 5 [false] K53_4
noncomputable def K53_6 : List Item := adv 5 [false] K53_1
noncomputable def K53_7 : List Item := adv 11 [] (popK K53_6)
noncomputable def K53_8 : List Item := adv 5 [] K53_7
noncomputable def K53_9 : List Item := adv 6 [true] K53_8
noncomputable def K53_10 : List Item := adv 5 [] (popK (popK K53_9))
noncomputable def K53_11 : List Item := adv 5 [] (popK K53_10)
noncomputable def K53_12 : List Item := adv 7 [false] K53_8
set_option maxRecDepth 20000 in
set_option maxHeartbeats 20000000 in
theorem concat_any (la : Option Addr) (len cap : Nat) (l : List Rw) (w : World) (hRc : Recs rwE 1 w la len l) (hQ : ∀ y ∈ l, rwQ w y) (hsm : (l.flatMap Rw.gS_l).length ≤ 1048576) (hlen : len ≤ 4096) : Ret Try.prog 53 #[.slice la len cap] w (fun v w' => ∃ a cap, v = .slice a (l.flatMap Rw.gS_l).length cap ∧ Sep w [rowOf encI a cap 3 1 (l.flatMap Rw.gS_l)] w') := by
  have S0 := Sep.refl w
  refine Ret.named fun R hR => ?_
  refine Ret.of_J (N := 36) [(0, .slice la len cap)] Try.func53 rfl rfl (Nat.le_of_ble_eq_true (by kernel_rfl)) (by kernel_rfl) ?_
  have hll := hRc.len_eq
  refine J.run 17 K53_0 [(11, .int .i64 0), (10, .int .i64 (len : Int)), (9, .slice la len cap), (3, .int .i64 0), (0, .slice la len cap)] w (by kernel_rfl) ?_
  have L53_1 : ∀ (mm_ : Nat) (sz : Int) (i : Int) (w1 : World), (0 ≤ i) → (i ≤ (len : Int)) → (sz = (((l.take (i).toNat).flatMap Rw.gS_l).length : Int)) → Sep w [] w1 → ((len : Int) - i).toNat = mm_ → J Try.prog 53 36 R K53_0 [(11, .int .i64 i), (10, .int .i64 (len : Int)), (9, .slice la len cap), (3, .int .i64 sz), (0, .slice la len cap)] w1 := by
    intro mm1
    induction mm1 using Nat.strongRecOn with
    | _ mm1 ih1 =>
    intro sz i w1 h0 h1 hs S1 hm1
    have hnx : i < (len : Int) → ((l.take i.toNat).flatMap Rw.gS_l).length + ((l.getD i.toNat rw0).gS_l).length ≤ (l.flatMap Rw.gS_l).length := fun h => by rw [← List.length_append, ← flat_take h0 (by omega)]; exact flat_len _
    have hfl := flat_len (l := l) i.toNat
    refine J.run 5 K53_1 [(12, .bool (decide (i < (len : Int)))), (11, .int .i64 i), (10, .int .i64 (len : Int)), (9, .slice la len cap), (3, .int .i64 sz), (0, .slice la len cap)] w1 (by kernel_rfl) ?_
    by_cases fk1 : i < (len : Int)
    · skip
      refine J.head (.bool true) (congrArg Value.bool (decide_eq_true fk1)) ?_
      refine J.run 6 K53_2 [(11, .int .i64 i), (10, .int .i64 (len : Int)), (9, .slice la len cap), (3, .int .i64 sz), (0, .slice la len cap)] w1 (by kernel_rfl) ?_
      obtain ⟨p1, hp1, hc1⟩ := hRc.at rw0 (i).toNat (by omega)
      have hel1 := getD_Q hQ rw0 (n := (i).toNat) (by have := hRc.len_eq; omega)
      obtain ⟨q1, q2, q3, _⟩ := id hel1
      have ql1 := q2.len_eq
      refine J.ok (OK.index 13 23 1 la p1 len (i).toNat i (p1.add ((i).toNat * 1)) (by kernel_rfl) (by kernel_rfl) hp1 (by omega) (by omega) rfl) ?_
      refine J.ok (OK.ldCell 14 22 (p1.add ((i).toNat * 1)) (.slice ((l.getD (i).toNat rw0).gS_a) ((l.getD (i).toNat rw0).gS_n) ((l.getD (i).toNat rw0).gS_c)) (by kernel_rfl) (by kernel_rfl) (S1.cell (cell_zero (hc1 0 _ rfl)))) ?_
      refine J.run 8 K53_3 [(18, .int .i64 (IntKind.wrap .i64 (sz + ((l.getD (i).toNat rw0).gS_n : Int)))), (11, .int .i64 i), (10, .int .i64 (len : Int)), (9, .slice la len cap), (0, .slice la len cap)] w1 (by kernel_rfl) ?_
      refine J.head (.int .i64 (sz + ((l.getD (i).toNat rw0).gS_n : Int))) (congrArg (Value.int .i64) (IntWalk.i64_in _ (by omega))) ?_
      refine J.run 7 K53_4 [(20, .bool (decide ((sz + ((l.getD (i).toNat rw0).gS_n : Int)) < 0))), (3, .int .i64 (sz + ((l.getD (i).toNat rw0).gS_n : Int))), (11, .int .i64 i), (10, .int .i64 (len : Int)), (9, .slice la len cap), (0, .slice la len cap)] w1 (by kernel_rfl) ?_
      have fk3 : ¬ ((sz + ((l.getD (i).toNat rw0).gS_n : Int)) < 0) := by omega
      refine J.head (.bool false) (congrArg Value.bool (decide_eq_false fk3)) ?_
      refine J.run 5 K53_5 [(22, .int .i64 (IntKind.wrap .i64 (i + 1))), (3, .int .i64 (sz + ((l.getD (i).toNat rw0).gS_n : Int))), (10, .int .i64 (len : Int)), (9, .slice la len cap), (0, .slice la len cap)] w1 (by kernel_rfl) ?_
      refine J.head (.int .i64 (i + 1)) (congrArg (Value.int .i64) (IntWalk.i64_in _ (by omega))) ?_
      refine J.run 3 K53_0 [(11, .int .i64 (i + 1)), (3, .int .i64 (sz + ((l.getD (i).toNat rw0).gS_n : Int))), (10, .int .i64 (len : Int)), (9, .slice la len cap), (0, .slice la len cap)] w1 (by kernel_rfl) ?_
      refine J.run 0 K53_0 [(11, .int .i64 (i + 1)), (10, .int .i64 (len : Int)), (9, .slice la len cap), (3, .int .i64 (sz + ((l.getD (i).toNat rw0).gS_n : Int))), (0, .slice la len cap)] w1 (by kernel_rfl) ?_
      exact ih1 _ (show ((len : Int) - (i + 1)).toNat < mm1 from by omega) (sz + ((l.getD (i).toNat rw0).gS_n : Int)) (i + 1) w1 (by omega) (by omega) (by rw [flat_take h0 (by omega), List.length_append]; omega) S1 rfl
    · skip
      refine J.head (.bool false) (congrArg Value.bool (decide_eq_false fk1)) ?_
      refine J.run 5 K53_6 [(23, .int .i64 sz), (0, .slice la len cap)] w1 (by kernel_rfl) ?_
      refine J.callF 24 66 #[.slice none 0 0, .int .i64 sz] hb66 (by kernel_rfl) (grow_any sz _ (by omega)) ?_
      rintro _ w2 ⟨ra1, rc1, rfl, T1⟩
      have S2 : Sep w [rowOf encI ra1 rc1 3 1 ([])] w2 := S1.trans T1
      clear T1 S1
      refine J.run 11 K53_7 [(27, .int .i64 0), (26, .int .i64 (len : Int)), (25, .slice la len cap), (6, .slice ra1 0 rc1)] w2 (by kernel_rfl) ?_
      have L53_2 : ∀ (mm_ : Nat) (ra : Option Addr) (rc : Nat) (ls : List Int) (k : Int) (w3 : World), (0 ≤ k) → (k ≤ (len : Int)) → (ls = (l.take (k).toNat).flatMap Rw.gS_l) → Sep w [rowOf encI ra rc 3 1 ls] w3 → ((len : Int) - k).toNat = mm_ → J Try.prog 53 36 R K53_7 [(27, .int .i64 k), (26, .int .i64 (len : Int)), (25, .slice la len cap), (6, .slice ra ls.length rc)] w3 := by
        intro mm2
        induction mm2 using Nat.strongRecOn with
        | _ mm2 ih2 =>
        intro ra rc ls k w3 k0 k1 hls S3 hm2
        have hnx : k < (len : Int) → ((l.take k.toNat).flatMap Rw.gS_l).length + ((l.getD k.toNat rw0).gS_l).length ≤ (l.flatMap Rw.gS_l).length := fun h => by rw [← List.length_append, ← flat_take k0 (by omega)]; exact flat_len _
        have hfl := flat_len (l := l) k.toNat
        rw [← hls] at hnx hfl
        refine J.run 5 K53_8 [(28, .bool (decide (k < (len : Int)))), (27, .int .i64 k), (26, .int .i64 (len : Int)), (25, .slice la len cap), (6, .slice ra ls.length rc)] w3 (by kernel_rfl) ?_
        by_cases fk4 : k < (len : Int)
        · skip
          refine J.head (.bool true) (congrArg Value.bool (decide_eq_true fk4)) ?_
          refine J.run 6 K53_9 [(27, .int .i64 k), (26, .int .i64 (len : Int)), (25, .slice la len cap), (6, .slice ra ls.length rc)] w3 (by kernel_rfl) ?_
          obtain ⟨p2, hp2, hc2⟩ := hRc.at rw0 (k).toNat (by omega)
          have hel2 := getD_Q hQ rw0 (n := (k).toNat) (by have := hRc.len_eq; omega)
          obtain ⟨q4, q5, q6, _⟩ := id hel2
          have ql2 := q5.len_eq
          refine J.ok (OK.index 29 23 1 la p2 len (k).toNat k (p2.add ((k).toNat * 1)) (by kernel_rfl) (by kernel_rfl) hp2 (by omega) (by omega) rfl) ?_
          refine J.ok (OK.ldCell 30 22 (p2.add ((k).toNat * 1)) (.slice ((l.getD (k).toNat rw0).gS_a) ((l.getD (k).toNat rw0).gS_n) ((l.getD (k).toNat rw0).gS_c)) (by kernel_rfl) (by kernel_rfl) (S3.cell (cell_zero (hc2 0 _ rfl)))) ?_
          refine J.run 5 K53_10 [(32, .slice ((l.getD (k).toNat rw0).gS_a) ((l.getD (k).toNat rw0).gS_n) ((l.getD (k).toNat rw0).gS_c)), (31, .slice ra ls.length rc), (27, .int .i64 k), (26, .int .i64 (len : Int)), (25, .slice la len cap)] w3 (by kernel_rfl) ?_
          have hz1 := q5.sep S3
          have := hz1.len_eq
          refine J.appendN encI S3 0 ls ((l.getD (k).toNat rw0).gS_l) ((l.getD (k).toNat rw0).gS_n) (by first | omega | (simp; omega)) 33 22 (.int .i64 0) 8 ((l.getD (k).toNat rw0).gS_a) ((l.getD (k).toNat rw0).gS_c) rfl (by kernel_rfl) (by kernel_rfl) (by kernel_rfl) (by kernel_rfl) (by decide) (q5.sep S3).enc (fun h_ => Ones.nil (h_ ▸ hz1)) (fun _ => rfl) (fun _ => rfl) (⟨by first | omega | (simp; omega), by first | omega | (simp; omega)⟩) ?_
          intro ra2 rc2 w4 S4
          replace S4 : Sep w [rowOf encI ra2 rc2 3 1 (ls ++ ((l.getD (k).toNat rw0).gS_l))] w4 := S4
          refine J.run 5 K53_11 [(34, .int .i64 (IntKind.wrap .i64 (k + 1))), (6, .slice ra2 ((ls ++ ((l.getD (k).toNat rw0).gS_l)).length) rc2), (26, .int .i64 (len : Int)), (25, .slice la len cap)] w4 (by kernel_rfl) ?_
          refine J.head (.int .i64 (k + 1)) (congrArg (Value.int .i64) (IntWalk.i64_in _ (by omega))) ?_
          refine J.run 3 K53_7 [(27, .int .i64 (k + 1)), (6, .slice ra2 ((ls ++ ((l.getD (k).toNat rw0).gS_l)).length) rc2), (26, .int .i64 (len : Int)), (25, .slice la len cap)] w4 (by kernel_rfl) ?_
          refine J.run 0 K53_7 [(27, .int .i64 (k + 1)), (26, .int .i64 (len : Int)), (25, .slice la len cap), (6, .slice ra2 ((ls ++ ((l.getD (k).toNat rw0).gS_l)).length) rc2)] w4 (by kernel_rfl) ?_
          exact ih2 _ (show ((len : Int) - (k + 1)).toNat < mm2 from by omega) ra2 rc2 (ls ++ ((l.getD (k).toNat rw0).gS_l)) (k + 1) w4 (by omega) (by omega) (by rw [hls, flat_take k0 (by omega)]) S4 rfl
        · skip
          refine J.head (.bool false) (congrArg Value.bool (decide_eq_false fk4)) ?_
          refine J.run 7 K53_12 [(2, .slice ra ls.length rc)] w3 (by kernel_rfl) ?_
          refine J.ret Try.f53 [.slice ra ls.length rc] Try.func53 ⟨by kernel_rfl, trivial⟩ ?_
          refine hR _ _ ?_
          have e_ : ls = l.flatMap Rw.gS_l := by rw [hls, List.take_of_length_le (by omega)]
          subst e_
          exact ⟨_, _, rfl, S3.pick 0 rfl⟩
      exact L53_2 _ ra1 rc1 ([]) 0 w2 (by omega) (by omega) (rfl) S2 rfl
  exact L53_1 _ 0 0 w (by omega) (by omega) (rfl) S0 rfl

end Go.Proofs.Ytempepmfifljmaa
