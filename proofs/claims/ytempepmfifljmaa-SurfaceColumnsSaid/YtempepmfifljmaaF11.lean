/- Walks of functions of this seat, printed by a program over the engine. Conditions: as each theorem says. -/
import Derived.Test.YtempepmfifljmaaF10
namespace Go.Proofs.Ytempepmfifljmaa
open Go.Eng Go.RowKit
set_option linter.unusedSimpArgs false
set_option linter.unusedVariables false
theorem hb50 : HasBody Try.prog 50 := fun _ _ => by kernel_rfl
noncomputable def K50_0 : List Item := adv 15 [] (bodyOf Try.f50)
noncomputable def K50_1 : List Item := adv 8 [] K50_0
noncomputable def K50_2 : List Item := adv 8 [true] K50_1
noncomputable def K50_3 : List Item := adv 6 [] (popK (popK (popK (popK K50_2))))
noncomputable def K50_4 : List Item := adv 7 [false] K50_1
set_option maxRecDepth 20000 in
set_option maxHeartbeats 20000000 in
theorem copied_any (la : Option Addr) (len cap : Nat) (l : List Int) (w : World) (hI : Ints w la len l) (hlen : len ≤ 9223372036854775807) (hsm : len ≤ 4096) : Ret Try.prog 50 #[.slice la len cap] w (fun v w' => ∃ a cap, v = .slice a (l).length cap ∧ Sep w [rowOf encI a cap 3 1 (l)] w') := by
  have S0 := Sep.refl w
  refine Ret.named fun R hR => ?_
  refine Ret.of_J (N := 19) [(0, .slice la len cap)] Try.func50 rfl rfl (Nat.le_of_ble_eq_true (by kernel_rfl)) (by kernel_rfl) ?_
  have hll := hI.len_eq
  refine J.run 15 K50_0 [(4, .int .i64 0), (3, .slice none 0 0), (0, .slice la len cap)] w (by kernel_rfl) ?_
  have S1 : Sep w [rowOf encI none 0 3 1 ([])] w := S0.nilRow 3 1
  have L50_1 : ∀ (mm_ : Nat) (ra : Option Addr) (rc : Nat) (ls : List Int) (i : Int) (w1 : World), (0 ≤ i) → (i ≤ (len : Int)) → (ls = l.take (i).toNat) → Sep w [rowOf encI ra rc 3 1 ls] w1 → ((len : Int) - i).toNat = mm_ → J Try.prog 50 19 R K50_0 [(4, .int .i64 i), (3, .slice ra ls.length rc), (0, .slice la len cap)] w1 := by
    intro mm1
    induction mm1 using Nat.strongRecOn with
    | _ mm1 ih1 =>
    intro ra rc ls i w1 h0 h1 hls S2 hm1
    have hlsl : ls.length = i.toNat := by rw [hls, List.length_take]; omega
    refine J.run 8 K50_1 [(8, .bool (decide (i < (len : Int)))), (4, .int .i64 i), (3, .slice ra ls.length rc), (0, .slice la len cap)] w1 (by kernel_rfl) ?_
    by_cases fk1 : i < (len : Int)
    · skip
      refine J.head (.bool true) (congrArg Value.bool (decide_eq_true fk1)) ?_
      refine J.run 8 K50_2 [(13, .int .i64 i), (12, .slice la len cap), (11, .slice ra ls.length rc), (4, .int .i64 i), (0, .slice la len cap)] w1 (by kernel_rfl) ?_
      obtain ⟨p1, hp1, hc1⟩ := hI.at 0 (i).toNat (by omega)
      refine J.ok (OK.index 14 22 1 la p1 len (i).toNat i (p1.add (i).toNat) (by kernel_rfl) (by kernel_rfl) hp1 (by omega) (by omega) (by rw [Nat.mul_one])) ?_
      refine J.ok (OK.ldCell 15 3 (p1.add (i).toNat) (.int .i64 (l.getD (i).toNat 0)) (by kernel_rfl) (by kernel_rfl) (S2.cell hc1)) ?_
      refine J.newSlice S2 16 1 [.int .i64 (l.getD (i).toNat 0)] 3 (by kernel_rfl) ?_
      intro b1 w2 S3
      refine J.append encI S3 1 ls (l.getD (i).toNat 0) 17 22 (.int .i64 0) 8 ⟨b1, 0, none⟩ 1 rfl (by kernel_rfl) (by kernel_rfl) (by kernel_rfl) (by kernel_rfl) (by decide) (box_cells (S3.nth 0 rfl)) (by kernel_rfl) (by kernel_rfl) (⟨by omega, by omega⟩) ?_
      intro ra1 rc1 w3 S4
      replace S4 : Sep w [box b1 [.int .i64 (l.getD (i).toNat 0)] 3, rowOf encI ra1 rc1 3 1 (ls ++ [l.getD (i).toNat 0])] w3 := S4
      have S5 : Sep w [rowOf encI ra1 rc1 3 1 (ls ++ [l.getD (i).toNat 0])] w3 := S4.erase 0
      clear S4
      refine J.run 6 K50_3 [(10, .int .i64 (IntKind.wrap .i64 (i + 1))), (3, .slice ra1 ((ls ++ [l.getD (i).toNat 0]).length) rc1), (0, .slice la len cap)] w3 (by kernel_rfl) ?_
      refine J.head (.int .i64 (i + 1)) (congrArg (Value.int .i64) (IntWalk.i64_in _ (by omega))) ?_
      refine J.run 3 K50_0 [(4, .int .i64 (i + 1)), (3, .slice ra1 ((ls ++ [l.getD (i).toNat 0]).length) rc1), (0, .slice la len cap)] w3 (by kernel_rfl) ?_
      refine J.run 0 K50_0 [(4, .int .i64 (i + 1)), (3, .slice ra1 ((ls ++ [l.getD (i).toNat 0]).length) rc1), (0, .slice la len cap)] w3 (by kernel_rfl) ?_
      exact ih1 _ (show ((len : Int) - (i + 1)).toNat < mm1 from by omega) ra1 rc1 (ls ++ [l.getD (i).toNat 0]) (i + 1) w3 (by omega) (by omega) (by rw [hls, take_snoc h0 (by omega)]) S5 rfl
    · skip
      refine J.head (.bool false) (congrArg Value.bool (decide_eq_false fk1)) ?_
      refine J.run 7 K50_4 [(2, .slice ra ls.length rc)] w1 (by kernel_rfl) ?_
      refine J.ret Try.f50 [.slice ra ls.length rc] Try.func50 ⟨by kernel_rfl, trivial⟩ ?_
      refine hR _ _ ?_
      have e_ : ls = l := by rw [hls]; exact List.take_of_length_le (by first | omega | (rw [colF_length]; omega))
      subst e_
      exact ⟨_, _, rfl, S2.pick 0 rfl⟩
  exact L50_1 _ none 0 ([]) 0 w (by omega) (by omega) (rfl) S1 rfl

theorem hb46 : HasBody Try.prog 46 := fun _ _ => by kernel_rfl
noncomputable def K46_0 : List Item := adv 8 [] (bodyOf Try.f46)
noncomputable def K46_1 : List Item := adv 1 [] (popK K46_0)
noncomputable def K46_2 : List Item := adv 5 [true] K46_1
noncomputable def K46_3 : List Item := adv 4 [false] K46_1
noncomputable def K46_4 : List Item := adv 1 [] (popK K46_3)
noncomputable def K46_5 : List Item := adv 2 [] (popK K46_4)
set_option maxRecDepth 20000 in
set_option maxHeartbeats 20000000 in
theorem clone_any (la : Option Addr) (len cap : Nat) (l : List Int) (w : World) (hI : Ints w la len l) (hlen : len ≤ 9223372036854775807) (hsm : len ≤ 4096) : Ret Try.prog 46 #[.slice la len cap] w (fun v w' => ∃ a cap, v = .slice a (l).length cap ∧ Sep w [rowOf encI a cap 3 1 (l)] w') := by
  have S0 := Sep.refl w
  refine Ret.named fun R hR => ?_
  refine Ret.of_J (N := 8) [(0, .slice la len cap)] Try.func46 rfl rfl (Nat.le_of_ble_eq_true (by kernel_rfl)) (by kernel_rfl) ?_
  have hll := hI.len_eq
  refine J.run 8 K46_0 [(3, .slice la len cap), (0, .slice la len cap)] w (by kernel_rfl) ?_
  refine J.ok (OK.nilS 4 true 22 la (by kernel_rfl) (by kernel_rfl) la.isNone (by simp)) ?_
  refine J.run 1 K46_1 [(4, .bool la.isNone), (0, .slice la len cap)] w (by kernel_rfl) ?_
  rcases Bool.eq_false_or_eq_true la.isNone with fk1 | fk1
  · skip
    refine J.head (.bool true) (congrArg Value.bool fk1) ?_
    refine J.run 5 K46_2 [(2, .slice none 0 0)] w (by kernel_rfl) ?_
    refine J.ret Try.f46 [.slice none 0 0] Try.func46 ⟨by kernel_rfl, trivial⟩ ?_
    refine hR _ _ ?_
    have e_ : l = [] := by cases la with | none => exact hI.nil | some p => simp at fk1
    subst e_
    exact ⟨none, 0, rfl, S0.nilRow 3 1⟩
  · skip
    refine J.head (.bool false) (congrArg Value.bool fk1) ?_
    refine J.run 4 K46_3 [(0, .slice la len cap)] w (by kernel_rfl) ?_
    refine J.newSlice S0 5 0 [] 3 (by kernel_rfl) ?_
    intro b1 w1 S1
    refine J.run 1 K46_4 [(6, .slice la len cap), (5, .slice (some ⟨b1, 0, none⟩) 0 0)] w1 (by kernel_rfl) ?_
    have S2 : Sep w [rowOf encI (some ⟨b1, 0, none⟩) 0 3 1 ([])] w1 := box_row encI S1 0 [] 1 rfl rfl rfl (by simp [maxLen]) (.inr trivial)
    have hz1 := hI.sep S2
    have := hz1.len_eq
    refine J.appendN encI S2 0 ([]) l len (by first | omega | (simp; omega)) 7 22 (.int .i64 0) 8 la cap rfl (by kernel_rfl) (by kernel_rfl) (by kernel_rfl) (by kernel_rfl) (by decide) (hI.sep S2).enc (fun h_ => Ones.nil (h_ ▸ hz1)) (fun _ => rfl) (fun _ => rfl) (⟨by first | omega | (simp; omega), by first | omega | (simp; omega)⟩) ?_
    intro ra1 rc1 w2 S3
    replace S3 : Sep w [rowOf encI ra1 rc1 3 1 l] w2 := S3
    refine J.run 2 K46_5 [(2, .slice ra1 l.length rc1)] w2 (by kernel_rfl) ?_
    refine J.ret Try.f46 [.slice ra1 l.length rc1] Try.func46 ⟨by kernel_rfl, trivial⟩ ?_
    refine hR _ _ ?_
    exact ⟨_, _, rfl, S3.pick 0 rfl⟩

theorem colZ_take {m : Mp} {j : Nat} {i : Int} (h0 : 0 ≤ i) (h : i < (m.gX_n : Int)) : (colZ m j).take (i + 1).toNat = (colZ m j).take i.toNat ++ [(m.gZ_l.getD i.toNat rw0).gS_l.getD j 0] := by
  rw [take_snoc h0 (by rw [colZ_length]; exact h), colZ_getD m (by omega)]; rfl
theorem colF_take {m : Mp} {x : Int} {j : Int} (h0 : 0 ≤ j) (h : j < (m.gY_n : Int)) : (colF m x).take (j + 1).toNat = (colF m x).take j.toNat ++ [curveF m.gX_l (colZ m j.toNat) x] := by
  rw [take_snoc h0 (by rw [colF_length]; exact h), colF_getD m x (by omega)]
theorem hb51 : HasBody Try.prog 51 := fun _ _ => by kernel_rfl
noncomputable def K51_0 : List Item := adv 2 [] (bodyOf Try.f51)
noncomputable def K51_1 : List Item := adv 13 [] (popK K51_0)
noncomputable def K51_2 : List Item := adv 5 [] K51_1
noncomputable def K51_3 : List Item := adv 3 [] (popK K51_2)
noncomputable def K51_4 : List Item := adv 15 [true] K51_3
noncomputable def K51_5 : List Item := adv 5 [] K51_4
noncomputable def K51_6 : List Item := adv 3 [] (popK K51_5)
noncomputable def K51_7 : List Item := adv 7 [true] K51_6
noncomputable def K51_8 : List Item := adv 1 [] (popK K51_7)
noncomputable def K51_9 : List Item := adv 1 [] (popK (popK K51_8))
noncomputable def K51_10 : List Item := adv 6 [] (popK (popK (popK (popK K51_9))))
noncomputable def K51_11 : List Item := adv 5 [false] K51_6
noncomputable def K51_12 : List Item := adv 2 [] (popK K51_11)
noncomputable def K51_13 : List Item := adv 6 [] (popK (popK (popK K51_12)))
noncomputable def K51_14 : List Item := adv 7 [false] K51_3
set_option maxRecDepth 20000 in
set_option maxHeartbeats 20000000 in
theorem column_any (m : Mp) (x : Int) (w : World) (hm : mpQ w m) (hv : validM m = true) : Ret Try.prog 51 #[.agg #[.slice m.gX_a m.gX_n m.gX_c, .slice m.gY_a m.gY_n m.gY_c, .slice m.gZ_a m.gZ_n m.gZ_c], .int .i64 x] w (fun v w' => ∃ a cap, v = .slice a (colF m x).length cap ∧ Sep w [rowOf encI a cap 3 1 (colF m x)] w') := by
  have S0 := Sep.refl w
  refine Ret.named fun R hR => ?_
  refine Ret.of_J (N := 43) [(0, .agg #[.slice m.gX_a m.gX_n m.gX_c, .slice m.gY_a m.gY_n m.gY_c, .slice m.gZ_a m.gZ_n m.gZ_c]), (1, .int .i64 x)] Try.func51 rfl rfl (Nat.le_of_ble_eq_true (by kernel_rfl)) (by kernel_rfl) ?_
  obtain ⟨q1, q2, q3, q4, q5, q6, q7, q8, q9, _⟩ := id hm
  have ql1 := q2.len_eq
  have ql2 := q5.len_eq
  have ql3 := q8.len_eq
  obtain ⟨hv1, hv2, hv3, hv4⟩ := valid_facts hv
  obtain ⟨hx1, hx2, hx3⟩ := axis_facts hv1
  obtain ⟨hy1, hy2, hy3⟩ := axis_facts hv2
  have hX : m.gX_l.length = m.gX_n := by omega
  have hY : m.gY_l.length = m.gY_n := by omega
  have vm := vm_of hv (by omega) fun i hi => row_len hm hi
  refine J.run 2 K51_0 [(0, .agg #[.slice m.gX_a m.gX_n m.gX_c, .slice m.gY_a m.gY_n m.gY_c, .slice m.gZ_a m.gZ_n m.gZ_c]), (1, .int .i64 x)] w (by kernel_rfl) ?_
  refine J.new S0 2 [.slice m.gX_a m.gX_n m.gX_c, .slice m.gY_a m.gY_n m.gY_c, .slice m.gZ_a m.gZ_n m.gZ_c] 25 (by kernel_rfl) ?_
  intro b1 w1 S1
  refine J.run 13 K51_1 [(6, .int .i64 0), (5, .slice none 0 0), (2, .pointer (some ⟨b1, 0, none⟩)), (1, .int .i64 x)] w1 (by kernel_rfl) ?_
  have S2 : Sep w [rowOf encI none 0 3 1 ([]), box b1 [.slice m.gX_a m.gX_n m.gX_c, .slice m.gY_a m.gY_n m.gY_c, .slice m.gZ_a m.gZ_n m.gZ_c] 25] w1 := S1.nilRow 3 1
  have L51_1 : ∀ (mm_ : Nat) (ra : Option Addr) (rc : Nat) (ls : List Int) (j : Int) (w2 : World), (0 ≤ j) → (j ≤ (m.gY_n : Int)) → (ls = (colF m x).take (j).toNat) → Sep w [rowOf encI ra rc 3 1 ls, box b1 [.slice m.gX_a m.gX_n m.gX_c, .slice m.gY_a m.gY_n m.gY_c, .slice m.gZ_a m.gZ_n m.gZ_c] 25] w2 → ((m.gY_n : Int) - j).toNat = mm_ → J Try.prog 51 43 R K51_1 [(6, .int .i64 j), (5, .slice ra ls.length rc), (2, .pointer (some ⟨b1, 0, none⟩)), (1, .int .i64 x)] w2 := by
    intro mm1
    induction mm1 using Nat.strongRecOn with
    | _ mm1 ih1 =>
    intro ra rc ls j w2 j0 j1 hls S3 hm1
    have hlsl : ls.length = j.toNat := by rw [hls, List.length_take, colF_length]; omega
    refine J.run 5 K51_2 [(10, .pointer (some ⟨b1, 1, none⟩)), (9, .int .i64 j), (6, .int .i64 j), (5, .slice ra ls.length rc), (2, .pointer (some ⟨b1, 0, none⟩)), (1, .int .i64 x)] w2 (by kernel_rfl) ?_
    refine J.ok (OK.ldBox S3 1 11 22 1 (.slice m.gY_a m.gY_n m.gY_c) (by kernel_rfl) rfl (by kernel_rfl)) ?_
    refine J.run 3 K51_3 [(13, .bool (decide (j < (m.gY_n : Int)))), (6, .int .i64 j), (5, .slice ra ls.length rc), (2, .pointer (some ⟨b1, 0, none⟩)), (1, .int .i64 x)] w2 (by kernel_rfl) ?_
    by_cases fk1 : j < (m.gY_n : Int)
    · skip
      refine J.head (.bool true) (congrArg Value.bool (decide_eq_true fk1)) ?_
      refine J.run 15 K51_4 [(8, .int .i64 0), (7, .slice none 0 0), (6, .int .i64 j), (5, .slice ra ls.length rc), (2, .pointer (some ⟨b1, 0, none⟩)), (1, .int .i64 x)] w2 (by kernel_rfl) ?_
      have S4 : Sep w [rowOf encI none 0 3 1 ([]), rowOf encI ra rc 3 1 ls, box b1 [.slice m.gX_a m.gX_n m.gX_c, .slice m.gY_a m.gY_n m.gY_c, .slice m.gZ_a m.gZ_n m.gZ_c] 25] w2 := S3.nilRow 3 1
      have L51_2 : ∀ (mm_ : Nat) (rb : Option Addr) (rd : Nat) (ys : List Int) (i : Int) (w3 : World), (0 ≤ i) → (i ≤ (m.gX_n : Int)) → (ys = (colZ m j.toNat).take (i).toNat) → Sep w [rowOf encI rb rd 3 1 ys, rowOf encI ra rc 3 1 ls, box b1 [.slice m.gX_a m.gX_n m.gX_c, .slice m.gY_a m.gY_n m.gY_c, .slice m.gZ_a m.gZ_n m.gZ_c] 25] w3 → ((m.gX_n : Int) - i).toNat = mm_ → J Try.prog 51 43 R K51_4 [(8, .int .i64 i), (7, .slice rb ys.length rd), (6, .int .i64 j), (5, .slice ra ls.length rc), (2, .pointer (some ⟨b1, 0, none⟩)), (1, .int .i64 x)] w3 := by
        intro mm2
        induction mm2 using Nat.strongRecOn with
        | _ mm2 ih2 =>
        intro rb rd ys i w3 h0 h1 hys S5 hm2
        have hlsy : ys.length = i.toNat := by rw [hys, List.length_take, colZ_length]; omega
        have hw1 : i < (m.gZ_n : Int) → _ := fun h => hv4 i.toNat (by omega)
        refine J.run 5 K51_5 [(17, .pointer (some ⟨b1, 0, none⟩)), (16, .int .i64 i), (8, .int .i64 i), (7, .slice rb ys.length rd), (6, .int .i64 j), (5, .slice ra ls.length rc), (2, .pointer (some ⟨b1, 0, none⟩)), (1, .int .i64 x)] w3 (by kernel_rfl) ?_
        refine J.ok (OK.ldBox S5 2 18 22 0 (.slice m.gX_a m.gX_n m.gX_c) (by kernel_rfl) rfl (by kernel_rfl)) ?_
        refine J.run 3 K51_6 [(20, .bool (decide (i < (m.gX_n : Int)))), (8, .int .i64 i), (7, .slice rb ys.length rd), (6, .int .i64 j), (5, .slice ra ls.length rc), (2, .pointer (some ⟨b1, 0, none⟩)), (1, .int .i64 x)] w3 (by kernel_rfl) ?_
        by_cases fk2 : i < (m.gX_n : Int)
        · skip
          refine J.head (.bool true) (congrArg Value.bool (decide_eq_true fk2)) ?_
          refine J.run 7 K51_7 [(24, .pointer (some ⟨b1, 2, none⟩)), (23, .slice rb ys.length rd), (8, .int .i64 i), (6, .int .i64 j), (5, .slice ra ls.length rc), (2, .pointer (some ⟨b1, 0, none⟩)), (1, .int .i64 x)] w3 (by kernel_rfl) ?_
          refine J.ok (OK.ldBox S5 2 25 23 2 (.slice m.gZ_a m.gZ_n m.gZ_c) (by kernel_rfl) rfl (by kernel_rfl)) ?_
          refine J.run 1 K51_8 [(26, .int .i64 i), (25, .slice m.gZ_a m.gZ_n m.gZ_c), (23, .slice rb ys.length rd), (8, .int .i64 i), (6, .int .i64 j), (5, .slice ra ls.length rc), (2, .pointer (some ⟨b1, 0, none⟩)), (1, .int .i64 x)] w3 (by kernel_rfl) ?_
          obtain ⟨p1, hp1, hc1⟩ := q8.at rw0 (i).toNat (by omega)
          have hel1 := getD_Q q9 rw0 (n := (i).toNat) (by have := q8.len_eq; omega)
          obtain ⟨q10, q11, q12, _⟩ := id hel1
          have ql4 := q11.len_eq
          refine J.ok (OK.index 27 23 1 m.gZ_a p1 m.gZ_n (i).toNat i (p1.add ((i).toNat * 1)) (by kernel_rfl) (by kernel_rfl) hp1 (by omega) (by omega) rfl) ?_
          refine J.ok (OK.ldCell 28 22 (p1.add ((i).toNat * 1)) (.slice ((m.gZ_l.getD (i).toNat rw0).gS_a) ((m.gZ_l.getD (i).toNat rw0).gS_n) ((m.gZ_l.getD (i).toNat rw0).gS_c)) (by kernel_rfl) (by kernel_rfl) (S5.cell (cell_zero (hc1 0 _ rfl)))) ?_
          refine J.run 1 K51_9 [(29, .int .i64 j), (28, .slice ((m.gZ_l.getD (i).toNat rw0).gS_a) ((m.gZ_l.getD (i).toNat rw0).gS_n) ((m.gZ_l.getD (i).toNat rw0).gS_c)), (23, .slice rb ys.length rd), (8, .int .i64 i), (6, .int .i64 j), (5, .slice ra ls.length rc), (2, .pointer (some ⟨b1, 0, none⟩)), (1, .int .i64 x)] w3 (by kernel_rfl) ?_
          obtain ⟨p2, hp2, hc2⟩ := q11.at 0 (j).toNat (by omega)
          have hel2 := getD_Q q12 0 (n := (j).toNat) (by have := q11.len_eq; omega)
          refine J.ok (OK.index 30 22 1 ((m.gZ_l.getD (i).toNat rw0).gS_a) p2 ((m.gZ_l.getD (i).toNat rw0).gS_n) (j).toNat j (p2.add (j).toNat) (by kernel_rfl) (by kernel_rfl) hp2 (by omega) (by omega) (by rw [Nat.mul_one])) ?_
          refine J.ok (OK.ldCell 31 3 (p2.add (j).toNat) (.int .i64 (((m.gZ_l.getD (i).toNat rw0).gS_l).getD (j).toNat 0)) (by kernel_rfl) (by kernel_rfl) (S5.cell hc2)) ?_
          refine J.newSlice S5 32 1 [.int .i64 (((m.gZ_l.getD (i).toNat rw0).gS_l).getD (j).toNat 0)] 3 (by kernel_rfl) ?_
          intro b2 w4 S6
          refine J.append encI S6 1 ys (((m.gZ_l.getD (i).toNat rw0).gS_l).getD (j).toNat 0) 33 22 (.int .i64 0) 8 ⟨b2, 0, none⟩ 1 rfl (by kernel_rfl) (by kernel_rfl) (by kernel_rfl) (by kernel_rfl) (by decide) (box_cells (S6.nth 0 rfl)) (by kernel_rfl) (by kernel_rfl) (⟨by omega, by omega⟩) ?_
          intro ra1 rc1 w5 S7
          replace S7 : Sep w [box b2 [.int .i64 (((m.gZ_l.getD (i).toNat rw0).gS_l).getD (j).toNat 0)] 3, rowOf encI ra1 rc1 3 1 (ys ++ [((m.gZ_l.getD (i).toNat rw0).gS_l).getD (j).toNat 0]), rowOf encI ra rc 3 1 ls, box b1 [.slice m.gX_a m.gX_n m.gX_c, .slice m.gY_a m.gY_n m.gY_c, .slice m.gZ_a m.gZ_n m.gZ_c] 25] w5 := S7
          have S8 : Sep w [rowOf encI ra1 rc1 3 1 (ys ++ [((m.gZ_l.getD (i).toNat rw0).gS_l).getD (j).toNat 0]), rowOf encI ra rc 3 1 ls, box b1 [.slice m.gX_a m.gX_n m.gX_c, .slice m.gY_a m.gY_n m.gY_c, .slice m.gZ_a m.gZ_n m.gZ_c] 25] w5 := S7.erase 0
          clear S7
          refine J.run 6 K51_10 [(22, .int .i64 (IntKind.wrap .i64 (i + 1))), (7, .slice ra1 ((ys ++ [((m.gZ_l.getD (i).toNat rw0).gS_l).getD (j).toNat 0]).length) rc1), (6, .int .i64 j), (5, .slice ra ls.length rc), (2, .pointer (some ⟨b1, 0, none⟩)), (1, .int .i64 x)] w5 (by kernel_rfl) ?_
          refine J.head (.int .i64 (i + 1)) (congrArg (Value.int .i64) (IntWalk.i64_in _ (by omega))) ?_
          refine J.run 3 K51_4 [(8, .int .i64 (i + 1)), (7, .slice ra1 ((ys ++ [((m.gZ_l.getD (i).toNat rw0).gS_l).getD (j).toNat 0]).length) rc1), (6, .int .i64 j), (5, .slice ra ls.length rc), (2, .pointer (some ⟨b1, 0, none⟩)), (1, .int .i64 x)] w5 (by kernel_rfl) ?_
          refine J.run 0 K51_4 [(8, .int .i64 (i + 1)), (7, .slice ra1 ((ys ++ [((m.gZ_l.getD (i).toNat rw0).gS_l).getD (j).toNat 0]).length) rc1), (6, .int .i64 j), (5, .slice ra ls.length rc), (2, .pointer (some ⟨b1, 0, none⟩)), (1, .int .i64 x)] w5 (by kernel_rfl) ?_
          exact ih2 _ (show ((m.gX_n : Int) - (i + 1)).toNat < mm2 from by omega) ra1 rc1 (ys ++ [((m.gZ_l.getD (i).toNat rw0).gS_l).getD (j).toNat 0]) (i + 1) w5 (by omega) (by omega) (by rw [hys, colZ_take h0 (by omega)]) S8 rfl
        · skip
          refine J.head (.bool false) (congrArg Value.bool (decide_eq_false fk2)) ?_
          refine J.run 5 K51_11 [(35, .pointer (some ⟨b1, 0, none⟩)), (34, .slice ra ls.length rc), (7, .slice rb ys.length rd), (6, .int .i64 j), (2, .pointer (some ⟨b1, 0, none⟩)), (1, .int .i64 x)] w3 (by kernel_rfl) ?_
          refine J.ok (OK.ldBox S5 2 36 22 0 (.slice m.gX_a m.gX_n m.gX_c) (by kernel_rfl) rfl (by kernel_rfl)) ?_
          refine J.run 2 K51_12 [(38, .int .i64 x), (37, .slice rb ys.length rd), (36, .slice m.gX_a m.gX_n m.gX_c), (34, .slice ra ls.length rc), (6, .int .i64 j), (2, .pointer (some ⟨b1, 0, none⟩)), (1, .int .i64 x)] w3 (by kernel_rfl) ?_
          have hyse : ys = colZ m j.toNat := by rw [hys]; exact List.take_of_length_le (by rw [colZ_length]; omega)
          have hysl : ys.length = m.gX_n := by rw [hyse, colZ_length]
          have := rowOf_len (S5.nth 0 rfl)
          refine J.callF 39 64 #[.slice m.gX_a m.gX_n m.gX_c, .slice rb ys.length rd, .int .i64 x] hb64 (by kernel_rfl) (rcurve_any m.gX_a m.gX_n m.gX_c m.gX_l rb ys.length rd ys x _ (q2.sep S5) ((row1_ones (S5.nth 0 rfl) ys.length (by first | rfl | omega | simp))) ⟨hv1, by omega, by rw [hyse]; exact colZ_in vm (by omega)⟩) ?_
          rintro _ w6 ⟨rfl, T1⟩
          have S9 : Sep w [rowOf encI rb rd 3 1 ys, rowOf encI ra rc 3 1 ls, box b1 [.slice m.gX_a m.gX_n m.gX_c, .slice m.gY_a m.gY_n m.gY_c, .slice m.gZ_a m.gZ_n m.gZ_c] 25] w6 := S5.trans T1
          clear T1 S5
          refine J.newSlice S9 40 1 [.int .i64 (curveF m.gX_l ys x)] 3 (by kernel_rfl) ?_
          intro b3 w7 S10
          refine J.append encI S10 2 ls (curveF m.gX_l ys x) 41 22 (.int .i64 0) 8 ⟨b3, 0, none⟩ 1 rfl (by kernel_rfl) (by kernel_rfl) (by kernel_rfl) (by kernel_rfl) (by decide) (box_cells (S10.nth 0 rfl)) (by kernel_rfl) (by kernel_rfl) (⟨by omega, by omega⟩) ?_
          intro ra2 rc2 w8 S11
          replace S11 : Sep w [box b3 [.int .i64 (curveF m.gX_l ys x)] 3, rowOf encI rb rd 3 1 ys, rowOf encI ra2 rc2 3 1 (ls ++ [curveF m.gX_l ys x]), box b1 [.slice m.gX_a m.gX_n m.gX_c, .slice m.gY_a m.gY_n m.gY_c, .slice m.gZ_a m.gZ_n m.gZ_c] 25] w8 := S11
          have S12 : Sep w [rowOf encI rb rd 3 1 ys, rowOf encI ra2 rc2 3 1 (ls ++ [curveF m.gX_l ys x]), box b1 [.slice m.gX_a m.gX_n m.gX_c, .slice m.gY_a m.gY_n m.gY_c, .slice m.gZ_a m.gZ_n m.gZ_c] 25] w8 := S11.erase 0
          clear S11
          refine J.run 6 K51_13 [(15, .int .i64 (IntKind.wrap .i64 (j + 1))), (5, .slice ra2 ((ls ++ [curveF m.gX_l ys x]).length) rc2), (2, .pointer (some ⟨b1, 0, none⟩)), (1, .int .i64 x)] w8 (by kernel_rfl) ?_
          refine J.head (.int .i64 (j + 1)) (congrArg (Value.int .i64) (IntWalk.i64_in _ (by omega))) ?_
          refine J.run 3 K51_1 [(6, .int .i64 (j + 1)), (5, .slice ra2 ((ls ++ [curveF m.gX_l ys x]).length) rc2), (2, .pointer (some ⟨b1, 0, none⟩)), (1, .int .i64 x)] w8 (by kernel_rfl) ?_
          have S13 : Sep w [rowOf encI ra2 rc2 3 1 (ls ++ [curveF m.gX_l ys x]), box b1 [.slice m.gX_a m.gX_n m.gX_c, .slice m.gY_a m.gY_n m.gY_c, .slice m.gZ_a m.gZ_n m.gZ_c] 25] w8 := S12.erase 0
          clear S12
          refine J.run 0 K51_1 [(6, .int .i64 (j + 1)), (5, .slice ra2 ((ls ++ [curveF m.gX_l ys x]).length) rc2), (2, .pointer (some ⟨b1, 0, none⟩)), (1, .int .i64 x)] w8 (by kernel_rfl) ?_
          exact ih1 _ (show ((m.gY_n : Int) - (j + 1)).toNat < mm1 from by omega) ra2 rc2 (ls ++ [curveF m.gX_l ys x]) (j + 1) w8 (by omega) (by omega) (by rw [hls, hyse, colF_take j0 (by omega)]) S13 rfl
      exact L51_2 _ none 0 ([]) 0 w2 (by omega) (by omega) (rfl) S4 rfl
    · skip
      refine J.head (.bool false) (congrArg Value.bool (decide_eq_false fk1)) ?_
      refine J.run 7 K51_14 [(4, .slice ra ls.length rc)] w2 (by kernel_rfl) ?_
      refine J.ret Try.f51 [.slice ra ls.length rc] Try.func51 ⟨by kernel_rfl, trivial⟩ ?_
      refine hR _ _ ?_
      have e_ : ls = colF m x := by rw [hls]; exact List.take_of_length_le (by first | omega | (rw [colF_length]; omega))
      subst e_
      exact ⟨_, _, rfl, S3.pick 0 rfl⟩
  exact L51_1 _ none 0 ([]) 0 w1 (by omega) (by omega) (rfl) S2 rfl

theorem hb36 : HasBody Try.prog 36 := fun _ _ => by kernel_rfl
noncomputable def K36_0 : List Item := adv 2 [] (bodyOf Try.f36)
noncomputable def K36_1 : List Item := adv 3 [] (popK K36_0)
set_option maxRecDepth 20000 in
set_option maxHeartbeats 20000000 in
theorem rvalue_any (m : Mp) (x y : Int) (w : World) (hm : mpQ w m) (hv : validM m = true) : Ret Try.prog 36 #[.agg #[.slice m.gX_a m.gX_n m.gX_c, .slice m.gY_a m.gY_n m.gY_c, .slice m.gZ_a m.gZ_n m.gZ_c], .int .i64 x, .int .i64 y] w (fun v w' => v = .int .i64 (valueF m x y) ∧ Sep w [] w') := by
  have S0 := Sep.refl w
  refine Ret.named fun R hR => ?_
  refine Ret.of_J (N := 14) [(0, .agg #[.slice m.gX_a m.gX_n m.gX_c, .slice m.gY_a m.gY_n m.gY_c, .slice m.gZ_a m.gZ_n m.gZ_c]), (1, .int .i64 x), (2, .int .i64 y)] Try.func36 rfl rfl (Nat.le_of_ble_eq_true (by kernel_rfl)) (by kernel_rfl) ?_
  obtain ⟨q1, q2, q3, q4, q5, q6, q7, q8, q9, _⟩ := id hm
  have ql1 := q2.len_eq
  have ql2 := q5.len_eq
  have ql3 := q8.len_eq
  obtain ⟨hv1, hv2, hv3, hv4⟩ := valid_facts hv
  obtain ⟨hx1, hx2, hx3⟩ := axis_facts hv1
  obtain ⟨hy1, hy2, hy3⟩ := axis_facts hv2
  have hX : m.gX_l.length = m.gX_n := by omega
  have hY : m.gY_l.length = m.gY_n := by omega
  have vm := vm_of hv (by omega) fun i hi => row_len hm hi
  refine J.run 2 K36_0 [(0, .agg #[.slice m.gX_a m.gX_n m.gX_c, .slice m.gY_a m.gY_n m.gY_c, .slice m.gZ_a m.gZ_n m.gZ_c]), (1, .int .i64 x), (2, .int .i64 y)] w (by kernel_rfl) ?_
  refine J.new S0 3 [.slice m.gX_a m.gX_n m.gX_c, .slice m.gY_a m.gY_n m.gY_c, .slice m.gZ_a m.gZ_n m.gZ_c] 25 (by kernel_rfl) ?_
  intro b1 w1 S1
  refine J.run 3 K36_1 [(3, .pointer (some ⟨b1, 0, none⟩)), (1, .int .i64 x), (2, .int .i64 y)] w1 (by kernel_rfl) ?_
  refine J.drawPlan (fun w_ => Sep w [box b1 [.slice m.gX_a m.gX_n m.gX_c, .slice m.gY_a m.gY_n m.gY_c, .slice m.gZ_a m.gZ_n m.gZ_c] 25] w_) [(0, true), (1, true), (2, true), (3, true), (5, true), (4, false), (6, false), (7, true)] S1 Try.mixed (by kernel_rfl) (planOK_of (T := [(0, some 7, 8), (1, some 8, 128), (0, some 9, 8), (0, some 10, 2), (12, some 11, 1536), (0, some 12, 4), (50, some 13, 6400), (127, some 6, 8192)]) (by kernel_rfl) (by kernel_rfl)) ?_
  intro w2 S2
  refine PB.mk (S2.sub (.cons_cons _ (.slnil))) ?_
  refine PL.take 0 7 (.pointer (some ⟨b1, 1, none⟩)) (fun _ _ => by kernel_rfl) ?_
  refine PL.takeOK 1 (fun w_ S_ => OK.ldBox S_ 0 8 22 1 (.slice m.gY_a m.gY_n m.gY_c) (by kernel_rfl) rfl (by kernel_rfl)) rfl ?_
  refine PL.takeOK 2 (fun w_ S_ => OK.ldBox S_ 0 9 25 0 (.agg #[.slice m.gX_a m.gX_n m.gX_c, .slice m.gY_a m.gY_n m.gY_c, .slice m.gZ_a m.gZ_n m.gZ_c]) (by kernel_rfl) rfl (by kernel_rfl)) rfl ?_
  refine PL.take 3 10 (.int .i64 x) (fun _ _ => by kernel_rfl) ?_
  refine PL.take 5 12 (.int .i64 y) (fun _ _ => by kernel_rfl) ?_
  refine PL.callF 11 51 #[.agg #[.slice m.gX_a m.gX_n m.gX_c, .slice m.gY_a m.gY_n m.gY_c, .slice m.gZ_a m.gZ_n m.gZ_c], .int .i64 x] hb51 (by kernel_rfl) (column_any m x _ (mpQ_sep hm S2) hv) ?_
  rintro _ w3 ⟨ra1, rc1, rfl, T1⟩
  have S3 : Sep w [rowOf encI ra1 rc1 3 1 (colF m x), box b1 [.slice m.gX_a m.gX_n m.gX_c, .slice m.gY_a m.gY_n m.gY_c, .slice m.gZ_a m.gZ_n m.gZ_c] 25] w3 := S2.trans T1
  clear T1 S2
  refine PB.mk (S3.sub (.cons _ (.cons_cons _ (.slnil)))) ?_
  have := rowOf_len (S3.nth 0 rfl)
  refine PL.callF 13 64 #[.slice m.gY_a m.gY_n m.gY_c, .slice ra1 ((colF m x).length) rc1, .int .i64 y] hb64 (by kernel_rfl) (rcurve_any m.gY_a m.gY_n m.gY_c m.gY_l ra1 ((colF m x).length) rc1 (colF m x) y _ (q5.sep S3) ((row1_ones (S3.nth 0 rfl) ((colF m x).length) (by first | rfl | omega | simp))) ⟨hv2, by rw [colF_length]; omega, colF_in hX vm x⟩) ?_
  rintro _ w4 ⟨rfl, T2⟩
  have S4 : Sep w [rowOf encI ra1 rc1 3 1 (colF m x), box b1 [.slice m.gX_a m.gX_n m.gX_c, .slice m.gY_a m.gY_n m.gY_c, .slice m.gZ_a m.gZ_n m.gZ_c] 25] w4 := S3.trans T2
  clear T2 S3
  refine PB.mk (S4.sub (.cons _ (.cons_cons _ (.slnil)))) ?_
  refine PL.take 7 6 (.int .i64 (curveF m.gY_l (colF m x) y)) (fun _ _ => by kernel_rfl) ?_
  refine PL.done ?_
  refine J.run 0 (rRest K36_1) [(6, .int .i64 (curveF m.gY_l (colF m x) y))] w4 (by kernel_rfl) ?_
  refine J.ret Try.f36 [.int .i64 (curveF m.gY_l (colF m x) y)] Try.func36 ⟨by kernel_rfl, trivial⟩ ?_
  refine hR _ _ ?_
  exact ⟨rfl, S4.nil⟩

theorem hb14 : HasBody Try.prog 14 := fun _ _ => by kernel_rfl
noncomputable def K14_0 : List Item := adv 2 [] (bodyOf Try.f14)
noncomputable def K14_1 : List Item := adv 5 [] (popK K14_0)
noncomputable def K14_2 : List Item := adv 2 [] (popK (popK K14_1))
noncomputable def K14_3 : List Item := adv 4 [false] K14_2
noncomputable def K14_4 : List Item := adv 2 [] (popK K14_3)
noncomputable def K14_5 : List Item := adv 2 [] (popK K14_4)
noncomputable def K14_6 : List Item := adv 5 [true] K14_2
set_option maxRecDepth 20000 in
set_option maxHeartbeats 20000000 in
theorem rAt_any (m : Mp) (x y : Int) (w : World) (hm : mpQ w m) : Ret Try.prog 14 #[.agg #[.slice m.gX_a m.gX_n m.gX_c, .slice m.gY_a m.gY_n m.gY_c, .slice m.gZ_a m.gZ_n m.gZ_c], .int .i64 x, .int .i64 y] w (fun v w' => v = .int .i64 (atF m x y) ∧ Sep w [] w') := by
  have S0 := Sep.refl w
  refine Ret.named fun R hR => ?_
  refine Ret.of_J (N := 14) [(0, .agg #[.slice m.gX_a m.gX_n m.gX_c, .slice m.gY_a m.gY_n m.gY_c, .slice m.gZ_a m.gZ_n m.gZ_c]), (1, .int .i64 x), (2, .int .i64 y)] Try.func14 rfl rfl (Nat.le_of_ble_eq_true (by kernel_rfl)) (by kernel_rfl) ?_
  obtain ⟨q1, q2, q3, q4, q5, q6, q7, q8, q9, _⟩ := id hm
  have ql1 := q2.len_eq
  have ql2 := q5.len_eq
  have ql3 := q8.len_eq
  refine J.run 2 K14_0 [(0, .agg #[.slice m.gX_a m.gX_n m.gX_c, .slice m.gY_a m.gY_n m.gY_c, .slice m.gZ_a m.gZ_n m.gZ_c]), (1, .int .i64 x), (2, .int .i64 y)] w (by kernel_rfl) ?_
  refine J.new S0 3 [.slice m.gX_a m.gX_n m.gX_c, .slice m.gY_a m.gY_n m.gY_c, .slice m.gZ_a m.gZ_n m.gZ_c] 25 (by kernel_rfl) ?_
  intro b1 w1 S1
  refine J.run 5 K14_1 [(3, .pointer (some ⟨b1, 0, none⟩)), (1, .int .i64 x), (2, .int .i64 y)] w1 (by kernel_rfl) ?_
  refine J.ok (OK.ldBox S1 0 7 25 0 (.agg #[.slice m.gX_a m.gX_n m.gX_c, .slice m.gY_a m.gY_n m.gY_c, .slice m.gZ_a m.gZ_n m.gZ_c]) (by kernel_rfl) rfl (by kernel_rfl)) ?_
  refine J.callF 8 16 #[.agg #[.slice m.gX_a m.gX_n m.gX_c, .slice m.gY_a m.gY_n m.gY_c, .slice m.gZ_a m.gZ_n m.gZ_c]] hb16 (by kernel_rfl) (rvalid_any m _ (mpQ_sep hm S1)) ?_
  rintro _ w2 ⟨rfl, T1⟩
  have S2 : Sep w [box b1 [.slice m.gX_a m.gX_n m.gX_c, .slice m.gY_a m.gY_n m.gY_c, .slice m.gZ_a m.gZ_n m.gZ_c] 25] w2 := S1.trans T1
  clear T1 S1
  refine J.run 2 K14_2 [(9, .bool (!(validM m))), (3, .pointer (some ⟨b1, 0, none⟩)), (1, .int .i64 x), (2, .int .i64 y)] w2 (by kernel_rfl) ?_
  rcases Bool.eq_false_or_eq_true (validM m) with fk1 | fk1
  · skip
    refine J.head (.bool false) (congrArg Value.bool (by rw [fk1]; rfl)) ?_
    have hv := fk1
    refine J.run 4 K14_3 [(3, .pointer (some ⟨b1, 0, none⟩)), (1, .int .i64 x), (2, .int .i64 y)] w2 (by kernel_rfl) ?_
    refine J.ok (OK.ldBox S2 0 10 25 0 (.agg #[.slice m.gX_a m.gX_n m.gX_c, .slice m.gY_a m.gY_n m.gY_c, .slice m.gZ_a m.gZ_n m.gZ_c]) (by kernel_rfl) rfl (by kernel_rfl)) ?_
    refine J.run 2 K14_4 [(12, .int .i64 y), (11, .int .i64 x), (10, .agg #[.slice m.gX_a m.gX_n m.gX_c, .slice m.gY_a m.gY_n m.gY_c, .slice m.gZ_a m.gZ_n m.gZ_c])] w2 (by kernel_rfl) ?_
    refine J.callF 13 36 #[.agg #[.slice m.gX_a m.gX_n m.gX_c, .slice m.gY_a m.gY_n m.gY_c, .slice m.gZ_a m.gZ_n m.gZ_c], .int .i64 x, .int .i64 y] hb36 (by kernel_rfl) (rvalue_any m x y _ (mpQ_sep hm S2) hv) ?_
    rintro _ w3 ⟨rfl, T2⟩
    have S3 : Sep w [box b1 [.slice m.gX_a m.gX_n m.gX_c, .slice m.gY_a m.gY_n m.gY_c, .slice m.gZ_a m.gZ_n m.gZ_c] 25] w3 := S2.trans T2
    clear T2 S2
    refine J.run 2 K14_5 [(6, .int .i64 (valueF m x y))] w3 (by kernel_rfl) ?_
    refine J.ret Try.f14 [.int .i64 (valueF m x y)] Try.func14 ⟨by kernel_rfl, trivial⟩ ?_
    refine hR _ _ ?_
    exact ⟨congrArg (Value.int .i64) (by unfold atF; rw [fk1]; rfl), S3.nil⟩
  · skip
    refine J.head (.bool true) (congrArg Value.bool (by rw [fk1]; rfl)) ?_
    refine J.run 5 K14_6 [(6, .int .i64 0)] w2 (by kernel_rfl) ?_
    refine J.ret Try.f14 [.int .i64 0] Try.func14 ⟨by kernel_rfl, trivial⟩ ?_
    refine hR _ _ ?_
    exact ⟨congrArg (Value.int .i64) (by unfold atF; rw [fk1]; rfl), S2.nil⟩

end Go.Proofs.Ytempepmfifljmaa
