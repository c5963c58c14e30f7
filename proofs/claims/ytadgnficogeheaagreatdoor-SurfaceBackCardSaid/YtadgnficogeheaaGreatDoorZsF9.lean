/- Walks of functions of this seat, printed by a program over the engine. Conditions: as each theorem says. -/
import Derived.Test.YtadgnficogeheaaGreatDoorZsF8
namespace Go.Proofs.YtadgnficogeheaaGreatDoor
noncomputable section
open Go.Eng Go.RowKit
set_option linter.unusedSimpArgs false
set_option linter.unusedVariables false
theorem hb43 : HasBody Tryz.prog 43 := fun _ _ => by kernel_rfl
def K43_0 := adv 5 [] (bodyOf Tryz.f43)
set_option maxRecDepth 20000 in
set_option maxHeartbeats 20000000 in
theorem along_any (m : Mp) (i x j : Int) (bx1 bx2 bx3 : Nat) (w : World) (hm : mpQ w m) (hv : validM m = true) (hi : 0 ≤ i ∧ i + 1 < (m.gX_n : Int)) (hj : 0 ≤ j ∧ j < (m.gY_n : Int)) (hx : m.gX_l.getD (i).toNat 0 ≤ x ∧ x ≤ m.gX_l.getD (i + 1).toNat 0) (hb1 : (box bx1 [.slice m.gX_a m.gX_n m.gX_c, .slice m.gY_a m.gY_n m.gY_c, .slice m.gZ_a m.gZ_n m.gZ_c] 25).holds w) (hb2 : (box bx2 [.int .i64 i] 3).holds w) (hb3 : (box bx3 [.int .i64 x] 3).holds w) : Ret Tryz.prog 43 #[.int .i64 j, .pointer (some ⟨bx1, 0, none⟩), .pointer (some ⟨bx2, 0, none⟩), .pointer (some ⟨bx3, 0, none⟩)] w (fun v w' => v = .int .i64 (btwF (m.gX_l.getD (i).toNat 0) (m.gX_l.getD (i + 1).toNat 0) ((m.gZ_l.getD (i).toNat rw0).gS_l.getD (j).toNat 0) ((m.gZ_l.getD (i + 1).toNat rw0).gS_l.getD (j).toNat 0) x) ∧ Sep w [] w') := by
 have S0 := Sep.refl w
 refine Ret.named fun R hR => ?_
 refine Ret.of_J (N := 36) [(0, .int .i64 j), (1, .pointer (some ⟨bx1, 0, none⟩)), (2, .pointer (some ⟨bx2, 0, none⟩)), (3, .pointer (some ⟨bx3, 0, none⟩))] Tryz.func43 rfl rfl (Nat.le_of_ble_eq_true (by kernel_rfl)) (by kernel_rfl) ?_
 obtain ⟨q1, q2, q3, q4, q5, q6, q7, q8, q9, _⟩ := id hm
 have ql1 := q2.len_eq
 have ql2 := q5.len_eq
 have ql3 := q8.len_eq
 obtain ⟨hv1, hv2, hv3, hv4⟩ := valid_facts hv
 obtain ⟨hx1, hx2, hx3⟩ := axis_facts hv1
 obtain ⟨hy1, hy2, hy3⟩ := axis_facts hv2
 have ha1 := hx2 i.toNat (by omega)
 have ha2 := hx2 (i + 1).toNat (by omega)
 have ha3 := axis_mono hv1 (show i.toNat < (i + 1).toNat by omega) (by omega)
 obtain ⟨hz1, hz2⟩ := hv4 i.toNat (by omega)
 obtain ⟨hz3, hz4⟩ := hv4 (i + 1).toNat (by omega)
 refine J.run 5 K43_0 [(0, .int .i64 j), (1, .pointer (some ⟨bx1, 0, none⟩)), (2, .pointer (some ⟨bx2, 0, none⟩)), (3, .pointer (some ⟨bx3, 0, none⟩))] w (by kernel_rfl) ?_
 obtain ⟨p1, hp1, hc1⟩ := q2.at 0 (i).toNat (by omega)
 have hel1 := getD_Q q3 0 (n := (i).toNat) (by have := q2.len_eq; omega)
 obtain ⟨p2, hp2, hc2⟩ := q2.at 0 (i + 1).toNat (by omega)
 have hel2 := getD_Q q3 0 (n := (i + 1).toNat) (by have := q2.len_eq; omega)
 obtain ⟨p3, hp3, hc3⟩ := q8.at rw0 (i).toNat (by omega)
 have hel3 := getD_Q q9 rw0 (n := (i).toNat) (by have := q8.len_eq; omega)
 obtain ⟨q10, q11, q12, _⟩ := id hel3
 have ql4 := q11.len_eq
 obtain ⟨p4, hp4, hc4⟩ := q11.at 0 (j).toNat (by omega)
 have hel4 := getD_Q q12 0 (n := (j).toNat) (by have := q11.len_eq; omega)
 obtain ⟨p5, hp5, hc5⟩ := q8.at rw0 (i + 1).toNat (by omega)
 have hel5 := getD_Q q9 rw0 (n := (i + 1).toNat) (by have := q8.len_eq; omega)
 obtain ⟨q13, q14, q15, _⟩ := id hel5
 have ql5 := q14.len_eq
 obtain ⟨p6, hp6, hc6⟩ := q14.at 0 (j).toNat (by omega)
 have hel6 := getD_Q q15 0 (n := (j).toNat) (by have := q14.len_eq; omega)
 refine J.drawTail S0 29 Tryz.mixed (by kernel_rfl) (by kernel_rfl) ?_
 intro w1 S1
 refine SL.ok (by decide) (OK.run 6 (.pointer (some ⟨bx1, 0, none⟩)) (by kernel_rfl)) ?_
 refine SL.ok (by decide) (OK.ldRo S1 hb1 7 22 0 (.slice m.gX_a m.gX_n m.gX_c) (by kernel_rfl) (by kernel_rfl)) ?_
 refine SL.ok (by decide) (OK.ldRo S1 hb2 8 3 0 (.int .i64 i) (by kernel_rfl) (by kernel_rfl)) ?_
 refine SL.ok (by decide) (OK.index 9 22 1 m.gX_a p1 m.gX_n (i).toNat i (p1.add (i).toNat) (by kernel_rfl) (by kernel_rfl) hp1 (by omega) (by omega) (by rw [Nat.mul_one])) ?_
 refine SL.ok (by decide) (OK.ldCell 10 3 (p1.add (i).toNat) (.int .i64 (m.gX_l.getD (i).toNat 0)) (by kernel_rfl) (by kernel_rfl) (S1.cell hc1)) ?_
 refine SL.ok (by decide) (OK.run 11 (.pointer (some ⟨bx1, 0, none⟩)) (by kernel_rfl)) ?_
 refine SL.ok (by decide) (OK.ldRo S1 hb1 12 22 0 (.slice m.gX_a m.gX_n m.gX_c) (by kernel_rfl) (by kernel_rfl)) ?_
 refine SL.ok (by decide) (OK.ldRo S1 hb2 13 3 0 (.int .i64 i) (by kernel_rfl) (by kernel_rfl)) ?_
 refine SL.ok (by decide) (OK.run 14 (.int .i64 (IntKind.wrap .i64 (i + 1))) (by kernel_rfl)) ?_
 refine SL.head (.int .i64 (i + 1)) (congrArg (Value.int .i64) (IntWalk.i64_in _ (by omega))) ?_
 refine SL.ok (by decide) (OK.index 15 22 1 m.gX_a p2 m.gX_n (i + 1).toNat (i + 1) (p2.add (i + 1).toNat) (by kernel_rfl) (by kernel_rfl) hp2 (by omega) (by omega) (by rw [Nat.mul_one])) ?_
 refine SL.ok (by decide) (OK.ldCell 16 3 (p2.add (i + 1).toNat) (.int .i64 (m.gX_l.getD (i + 1).toNat 0)) (by kernel_rfl) (by kernel_rfl) (S1.cell hc2)) ?_
 refine SL.ok (by decide) (OK.run 17 (.pointer (some ⟨bx1, 2, none⟩)) (by kernel_rfl)) ?_
 refine SL.ok (by decide) (OK.ldRo S1 hb1 18 23 2 (.slice m.gZ_a m.gZ_n m.gZ_c) (by kernel_rfl) (by kernel_rfl)) ?_
 refine SL.ok (by decide) (OK.ldRo S1 hb2 19 3 0 (.int .i64 i) (by kernel_rfl) (by kernel_rfl)) ?_
 refine SL.ok (by decide) (OK.index 20 23 1 m.gZ_a p3 m.gZ_n (i).toNat i (p3.add ((i).toNat * 1)) (by kernel_rfl) (by kernel_rfl) hp3 (by omega) (by omega) rfl) ?_
 refine SL.ok (by decide) (OK.ldCell 21 22 (p3.add ((i).toNat * 1)) (.slice ((m.gZ_l.getD (i).toNat rw0).gS_a) ((m.gZ_l.getD (i).toNat rw0).gS_n) ((m.gZ_l.getD (i).toNat rw0).gS_c)) (by kernel_rfl) (by kernel_rfl) (S1.cell (cell_zero (hc3 0 _ rfl)))) ?_
 refine SL.ok (by decide) (OK.run 22 (.int .i64 j) (by kernel_rfl)) ?_
 refine SL.ok (by decide) (OK.index 23 22 1 ((m.gZ_l.getD (i).toNat rw0).gS_a) p4 ((m.gZ_l.getD (i).toNat rw0).gS_n) (j).toNat j (p4.add (j).toNat) (by kernel_rfl) (by kernel_rfl) hp4 (by omega) (by omega) (by rw [Nat.mul_one])) ?_
 refine SL.ok (by decide) (OK.ldCell 24 3 (p4.add (j).toNat) (.int .i64 (((m.gZ_l.getD (i).toNat rw0).gS_l).getD (j).toNat 0)) (by kernel_rfl) (by kernel_rfl) (S1.cell hc4)) ?_
 refine SL.ok (by decide) (OK.run 25 (.pointer (some ⟨bx1, 2, none⟩)) (by kernel_rfl)) ?_
 refine SL.ok (by decide) (OK.ldRo S1 hb1 26 23 2 (.slice m.gZ_a m.gZ_n m.gZ_c) (by kernel_rfl) (by kernel_rfl)) ?_
 refine SL.ok (by decide) (OK.ldRo S1 hb2 27 3 0 (.int .i64 i) (by kernel_rfl) (by kernel_rfl)) ?_
 refine SL.ok (by decide) (OK.run 28 (.int .i64 (IntKind.wrap .i64 (i + 1))) (by kernel_rfl)) ?_
 refine SL.head (.int .i64 (i + 1)) (congrArg (Value.int .i64) (IntWalk.i64_in _ (by omega))) ?_
 refine SL.ok (by decide) (OK.index 29 23 1 m.gZ_a p5 m.gZ_n (i + 1).toNat (i + 1) (p5.add ((i + 1).toNat * 1)) (by kernel_rfl) (by kernel_rfl) hp5 (by omega) (by omega) rfl) ?_
 refine SL.ok (by decide) (OK.ldCell 30 22 (p5.add ((i + 1).toNat * 1)) (.slice ((m.gZ_l.getD (i + 1).toNat rw0).gS_a) ((m.gZ_l.getD (i + 1).toNat rw0).gS_n) ((m.gZ_l.getD (i + 1).toNat rw0).gS_c)) (by kernel_rfl) (by kernel_rfl) (S1.cell (cell_zero (hc5 0 _ rfl)))) ?_
 refine SL.ok (by decide) (OK.run 31 (.int .i64 j) (by kernel_rfl)) ?_
 refine SL.ok (by decide) (OK.index 32 22 1 ((m.gZ_l.getD (i + 1).toNat rw0).gS_a) p6 ((m.gZ_l.getD (i + 1).toNat rw0).gS_n) (j).toNat j (p6.add (j).toNat) (by kernel_rfl) (by kernel_rfl) hp6 (by omega) (by omega) (by rw [Nat.mul_one])) ?_
 refine SL.ok (by decide) (OK.ldCell 33 3 (p6.add (j).toNat) (.int .i64 (((m.gZ_l.getD (i + 1).toNat rw0).gS_l).getD (j).toNat 0)) (by kernel_rfl) (by kernel_rfl) (S1.cell hc6)) ?_
 refine SL.ok (by decide) (OK.ldRo S1 hb3 34 3 0 (.int .i64 x) (by kernel_rfl) (by kernel_rfl)) ?_
 refine SL.done ?_
 have hz5 := hz2 j.toNat (by omega)
 have hz6 := hz4 j.toNat (by omega)
 refine TL.callF 35 44 #[.int .i64 (m.gX_l.getD (i).toNat 0), .int .i64 (m.gX_l.getD (i + 1).toNat 0), .int .i64 (((m.gZ_l.getD (i).toNat rw0).gS_l).getD (j).toNat 0), .int .i64 (((m.gZ_l.getD (i + 1).toNat rw0).gS_l).getD (j).toNat 0), .int .i64 x] hb44 (by kernel_rfl) (between_any (m.gX_l.getD (i).toNat 0) (m.gX_l.getD (i + 1).toNat 0) (((m.gZ_l.getD (i).toNat rw0).gS_l).getD (j).toNat 0) (((m.gZ_l.getD (i + 1).toNat rw0).gS_l).getD (j).toNat 0) x _ (by omega) (by omega) (by omega) (by omega) (by omega)) ?_
 rintro _ w2 ⟨rfl, T1⟩
 have S2 : Sep w [] w2 := S1.trans T1
 clear T1 S1
 have := btw_bounds (x0 := (m.gX_l.getD (i).toNat 0)) (x1 := (m.gX_l.getD (i + 1).toNat 0)) (y0 := (((m.gZ_l.getD (i).toNat rw0).gS_l).getD (j).toNat 0)) (y1 := (((m.gZ_l.getD (i + 1).toNat rw0).gS_l).getD (j).toNat 0)) (x := x) (by omega) (by omega) (by omega)
 refine TL.ok (OK.run 5 (.int .i64 (btwF (m.gX_l.getD (i).toNat 0) (m.gX_l.getD (i + 1).toNat 0) (((m.gZ_l.getD (i).toNat rw0).gS_l).getD (j).toNat 0) (((m.gZ_l.getD (i + 1).toNat rw0).gS_l).getD (j).toNat 0) x)) (by kernel_rfl)) ?_
 refine TL.done (by kernel_rfl) ?_
 refine J.run 0 (rRest K43_0) [(5, .int .i64 (btwF (m.gX_l.getD (i).toNat 0) (m.gX_l.getD (i + 1).toNat 0) (((m.gZ_l.getD (i).toNat rw0).gS_l).getD (j).toNat 0) (((m.gZ_l.getD (i + 1).toNat rw0).gS_l).getD (j).toNat 0) x))] w2 (by kernel_rfl) ?_
 refine J.ret Tryz.f43 [.int .i64 (btwF (m.gX_l.getD (i).toNat 0) (m.gX_l.getD (i + 1).toNat 0) (((m.gZ_l.getD (i).toNat rw0).gS_l).getD (j).toNat 0) (((m.gZ_l.getD (i + 1).toNat rw0).gS_l).getD (j).toNat 0) x)] Tryz.func43 ⟨by kernel_rfl, trivial⟩ ?_
 refine hR _ _ ?_
 exact ⟨rfl, S2.nil⟩

def colZ (m : Mp) (j : Nat) : List Int := (List.range m.gX_n).map fun i => zF m i j
def colF (m : Mp) (x : Int) : List Int := (List.range m.gY_n).map fun j => curveF m.gX_l (colZ m j) x
def valueF (m : Mp) (x y : Int) : Int := curveF m.gY_l (colF m x) y
theorem colZ_getD (m : Mp) {i j : Nat} (h : i < m.gX_n) : (colZ m j).getD i 0 = zF m i j := by simp [colZ, List.getD, h]
theorem colF_getD (m : Mp) (x : Int) {j : Nat} (h : j < m.gY_n) : (colF m x).getD j 0 = curveF m.gX_l (colZ m j) x := by simp [colF, List.getD, h]
theorem value_at {m : Mp} {x y i j x' y' : Int} (hX : m.gX_l.length = m.gX_n) (hY : m.gY_l.length = m.gY_n) (ax : axisB m.gX_l = true) (ay : axisB m.gY_l = true)
    (a1 : x' = min (max x (m.gX_l.getD 0 0)) (m.gX_l.getD (m.gX_l.length - 1) 0)) (a2 : 0 ≤ i ∧ i + 1 < (m.gX_l.length : Int)) (a3 : m.gX_l.getD i.toNat 0 ≤ x') (a4 : x' ≤ m.gX_l.getD (i + 1).toNat 0) (a5 : x' < m.gX_l.getD (i + 1).toNat 0 ∨ i + 2 = (m.gX_l.length : Int))
    (b1 : y' = min (max y (m.gY_l.getD 0 0)) (m.gY_l.getD (m.gY_l.length - 1) 0)) (b2 : 0 ≤ j ∧ j + 1 < (m.gY_l.length : Int)) (b3 : m.gY_l.getD j.toNat 0 ≤ y') (b4 : y' ≤ m.gY_l.getD (j + 1).toNat 0) (b5 : y' < m.gY_l.getD (j + 1).toNat 0 ∨ j + 2 = (m.gY_l.length : Int)) :
    btwF (m.gY_l.getD j.toNat 0) (m.gY_l.getD (j + 1).toNat 0)
      (btwF (m.gX_l.getD i.toNat 0) (m.gX_l.getD (i + 1).toNat 0) ((m.gZ_l.getD i.toNat rw0).gS_l.getD j.toNat 0) ((m.gZ_l.getD (i + 1).toNat rw0).gS_l.getD j.toNat 0) x')
      (btwF (m.gX_l.getD i.toNat 0) (m.gX_l.getD (i + 1).toNat 0) ((m.gZ_l.getD i.toNat rw0).gS_l.getD (j + 1).toNat 0) ((m.gZ_l.getD (i + 1).toNat rw0).gS_l.getD (j + 1).toNat 0) x') y' = valueF m x y := by
  have ei : (i + 1).toNat = i.toNat + 1 := by omega
  have ej : (j + 1).toNat = j.toNat + 1 := by omega
  rw [ei] at a4 a5 ⊢
  rw [ej] at b4 b5 ⊢
  have key : ∀ k : Nat, btwF (m.gX_l.getD i.toNat 0) (m.gX_l.getD (i.toNat + 1) 0) ((m.gZ_l.getD i.toNat rw0).gS_l.getD k 0) ((m.gZ_l.getD (i.toNat + 1) rw0).gS_l.getD k 0) x' = curveF m.gX_l (colZ m k) x := by
    intro k
    rw [curve_seg (i := i.toNat) ax (by omega) a3 a4 (by omega) a1, colZ_getD m (by omega), colZ_getD m (by omega)]; rfl
  rw [key, key]
  unfold valueF
  rw [curve_seg (i := j.toNat) ay (by omega) b3 b4 (by omega) b1, colF_getD m x (by omega), colF_getD m x (by omega)]

theorem row_len {w : World} {m : Mp} (hm : mpQ w m) {i : Nat} (hi : i < m.gZ_l.length) : (m.gZ_l.getD i rw0).gS_l.length = (m.gZ_l.getD i rw0).gS_n := (getD_Q hm.2.2.2.2.2.2.2.2.1 rw0 hi).2.1.len_eq
theorem hb28 : HasBody Tryz.prog 28 := fun _ _ => by kernel_rfl
def K28_0 := adv 2 [] (bodyOf Tryz.f28)
def K28_1 := adv 5 [] (popK (popK K28_0))
def K28_2 := adv 3 [] (popK (popK (popK K28_1)))
def K28_3 := adv 4 [] (popK (popK (popK K28_2)))
def K28_4 := adv 1 [] (popK K28_3)
def K28_5 := adv 12 [] (popK K28_4)
set_option maxRecDepth 20000 in
set_option maxHeartbeats 20000000 in
theorem at_any (m : Mp) (x y : Int) (w : World) (hm : mpQ w m) (hv : validM m = true) : Ret Tryz.prog 28 #[.agg #[.slice m.gX_a m.gX_n m.gX_c, .slice m.gY_a m.gY_n m.gY_c, .slice m.gZ_a m.gZ_n m.gZ_c], .int .i64 x, .int .i64 y] w (fun v w' => v = .int .i64 (valueF m x y) ∧ Sep w [] w') := by
 have S0 := Sep.refl w
 refine Ret.named fun R hR => ?_
 refine Ret.of_J (N := 45) [(0, .agg #[.slice m.gX_a m.gX_n m.gX_c, .slice m.gY_a m.gY_n m.gY_c, .slice m.gZ_a m.gZ_n m.gZ_c]), (1, .int .i64 x), (2, .int .i64 y)] Tryz.func28 rfl rfl (Nat.le_of_ble_eq_true (by kernel_rfl)) (by kernel_rfl) ?_
 obtain ⟨q1, q2, q3, q4, q5, q6, q7, q8, q9, _⟩ := id hm
 have ql1 := q2.len_eq
 have ql2 := q5.len_eq
 have ql3 := q8.len_eq
 obtain ⟨hv1, hv2, hv3, hv4⟩ := valid_facts hv
 obtain ⟨hx1, hx2, hx3⟩ := axis_facts hv1
 obtain ⟨hy1, hy2, hy3⟩ := axis_facts hv2
 refine J.run 2 K28_0 [(0, .agg #[.slice m.gX_a m.gX_n m.gX_c, .slice m.gY_a m.gY_n m.gY_c, .slice m.gZ_a m.gZ_n m.gZ_c]), (1, .int .i64 x), (2, .int .i64 y)] w (by kernel_rfl) ?_
 refine J.new S0 3 [.slice m.gX_a m.gX_n m.gX_c, .slice m.gY_a m.gY_n m.gY_c, .slice m.gZ_a m.gZ_n m.gZ_c] 25 (by kernel_rfl) ?_
 intro b1 w1 S1
 refine J.new S1 4 [.int .i64 x] 3 (by kernel_rfl) ?_
 intro b2 w2 S2
 refine J.run 5 K28_1 [(11, .pointer (some ⟨b1, 0, none⟩)), (4, .pointer (some ⟨b2, 0, none⟩)), (3, .pointer (some ⟨b1, 0, none⟩)), (2, .int .i64 y)] w2 (by kernel_rfl) ?_
 refine J.ok (OK.ldBox S2 1 12 22 0 (.slice m.gX_a m.gX_n m.gX_c) (by kernel_rfl) rfl (by kernel_rfl)) ?_
 refine J.ok (OK.ldBox S2 0 13 3 0 (.int .i64 x) (by kernel_rfl) rfl (by kernel_rfl)) ?_
 refine J.callF 14 42 #[.slice m.gX_a m.gX_n m.gX_c, .int .i64 x] hb42 (by kernel_rfl) (segment_any m.gX_a m.gX_n m.gX_c m.gX_l x _ (q2.sep S2) (by omega) hv1) ?_
 rintro _ w3 ⟨i1, x1, rfl, ⟨hs1a, hs1b, hs1c, hs1d, hs1e⟩, T1⟩
 have S3 : Sep w [box b2 [.int .i64 x] 3, box b1 [.slice m.gX_a m.gX_n m.gX_c, .slice m.gY_a m.gY_n m.gY_c, .slice m.gZ_a m.gZ_n m.gZ_c] 25] w3 := S2.trans T1
 refine J.run 3 K28_2 [(16, .int .i64 x1), (15, .int .i64 i1), (4, .pointer (some ⟨b2, 0, none⟩)), (3, .pointer (some ⟨b1, 0, none⟩)), (2, .int .i64 y)] w3 (by kernel_rfl) ?_
 refine J.new S3 7 [.int .i64 0] 3 (by kernel_rfl) ?_
 intro b3 w4 S4
 refine J.stBox S4 0 3 0 (.int .i64 i1) [.int .i64 i1] [box b3 [.int .i64 i1] 3, box b2 [.int .i64 x] 3, box b1 [.slice m.gX_a m.gX_n m.gX_c, .slice m.gY_a m.gY_n m.gY_c, .slice m.gZ_a m.gZ_n m.gZ_c] 25] (by kernel_rfl) rfl (by kernel_rfl) (by kernel_rfl) rfl ?_
 intro w5 S5
 refine J.stBox S5 1 3 0 (.int .i64 x1) [.int .i64 x1] [box b3 [.int .i64 i1] 3, box b2 [.int .i64 x1] 3, box b1 [.slice m.gX_a m.gX_n m.gX_c, .slice m.gY_a m.gY_n m.gY_c, .slice m.gZ_a m.gZ_n m.gZ_c] 25] (by kernel_rfl) rfl (by kernel_rfl) (by kernel_rfl) rfl ?_
 intro w6 S6
 refine J.run 4 K28_3 [(18, .pointer (some ⟨b1, 1, none⟩)), (7, .pointer (some ⟨b3, 0, none⟩)), (4, .pointer (some ⟨b2, 0, none⟩)), (3, .pointer (some ⟨b1, 0, none⟩)), (2, .int .i64 y)] w6 (by kernel_rfl) ?_
 refine J.ok (OK.ldBox S6 2 19 22 1 (.slice m.gY_a m.gY_n m.gY_c) (by kernel_rfl) rfl (by kernel_rfl)) ?_
 refine J.run 1 K28_4 [(20, .int .i64 y), (19, .slice m.gY_a m.gY_n m.gY_c), (7, .pointer (some ⟨b3, 0, none⟩)), (4, .pointer (some ⟨b2, 0, none⟩)), (3, .pointer (some ⟨b1, 0, none⟩))] w6 (by kernel_rfl) ?_
 refine J.callF 21 42 #[.slice m.gY_a m.gY_n m.gY_c, .int .i64 y] hb42 (by kernel_rfl) (segment_any m.gY_a m.gY_n m.gY_c m.gY_l y _ (q5.sep S6) (by omega) hv2) ?_
 rintro _ w7 ⟨i2, x2, rfl, ⟨hs2a, hs2b, hs2c, hs2d, hs2e⟩, T2⟩
 have S7 : Sep w [box b3 [.int .i64 i1] 3, box b2 [.int .i64 x1] 3, box b1 [.slice m.gX_a m.gX_n m.gX_c, .slice m.gY_a m.gY_n m.gY_c, .slice m.gZ_a m.gZ_n m.gZ_c] 25] w7 := S6.trans T2
 refine J.run 12 K28_5 [(9, .func (.func 43) #[] #[.pointer (some ⟨b1, 0, none⟩), .pointer (some ⟨b3, 0, none⟩), .pointer (some ⟨b2, 0, none⟩)]), (2, .int .i64 x2), (8, .int .i64 i2), (3, .pointer (some ⟨b1, 0, none⟩))] w7 (by kernel_rfl) ?_
 obtain ⟨p1, hp1, hc1⟩ := q5.at 0 (i2).toNat (by omega)
 have hel1 := getD_Q q6 0 (n := (i2).toNat) (by have := q5.len_eq; omega)
 obtain ⟨p2, hp2, hc2⟩ := q5.at 0 (i2 + 1).toNat (by omega)
 have hel2 := getD_Q q6 0 (n := (i2 + 1).toNat) (by have := q5.len_eq; omega)
 refine J.drawPlan (fun w_ => Sep w [box b3 [.int .i64 i1] 3, box b2 [.int .i64 x1] 3, box b1 [.slice m.gX_a m.gX_n m.gX_c, .slice m.gY_a m.gY_n m.gY_c, .slice m.gZ_a m.gZ_n m.gZ_c] 25] w_) [(0, true), (1, true), (2, true), (3, true), (4, true), (5, true), (6, true), (7, true), (8, true), (9, true), (10, true), (11, true), (12, true), (14, true), (15, true), (16, true), (18, true), (13, false), (17, false), (19, false), (20, true)] S7 Tryz.mixed (by kernel_rfl) (planOK_of (T := [(0, some 25, 8), (1, some 26, 33554432), (0, some 27, 256), (6, some 28, 201326592), (8, some 29, 268435456), (0, some 30, 8), (32, some 31, 1073741824), (0, some 32, 256), (128, some 33, 4294967296), (320, some 34, 10737418240), (512, some 35, 17179869184), (0, some 36, 512), (0, some 37, 256), (6144, some 38, 206158430208), (0, some 39, 512), (0, some 40, 256), (32768, some 41, 1099511627776), (90112, some 42, 2748779069440), (0, some 43, 4), (402448, some 44, 13503914049536), (1048575, some 6, 17592186044416)]) (by kernel_rfl) (by kernel_rfl)) ?_
 intro w8 S8
 refine PB.mk S8 ?_
 refine PL.take 0 25 (.pointer (some ⟨b1, 1, none⟩)) (fun _ _ => by kernel_rfl) ?_
 refine PL.takeOK 1 (fun w_ S_ => OK.ldBox S_ 2 26 22 1 (.slice m.gY_a m.gY_n m.gY_c) (by kernel_rfl) rfl (by kernel_rfl)) rfl ?_
 refine PL.take 2 27 (.int .i64 i2) (fun _ _ => by kernel_rfl) ?_
 refine PL.takeOK 3 (fun w_ S_ => OK.index 28 22 1 m.gY_a p1 m.gY_n (i2).toNat i2 (p1.add (i2).toNat) (by kernel_rfl) (by kernel_rfl) hp1 (by omega) (by omega) (by rw [Nat.mul_one])) rfl ?_
 refine PL.takeOK 4 (fun w_ S_ => OK.ldCell 29 3 (p1.add (i2).toNat) (.int .i64 (m.gY_l.getD (i2).toNat 0)) (by kernel_rfl) (by kernel_rfl) (S_.cell hc1)) rfl ?_
 refine PL.take 5 30 (.pointer (some ⟨b1, 1, none⟩)) (fun _ _ => by kernel_rfl) ?_
 refine PL.takeOK 6 (fun w_ S_ => OK.ldBox S_ 2 31 22 1 (.slice m.gY_a m.gY_n m.gY_c) (by kernel_rfl) rfl (by kernel_rfl)) rfl ?_
 refine PL.take 7 32 (.int .i64 i2) (fun _ _ => by kernel_rfl) ?_
 refine PL.take 8 33 (.int .i64 (IntKind.wrap .i64 (i2 + 1))) (fun _ _ => by kernel_rfl) ?_
 refine PL.head (.int .i64 (i2 + 1)) (congrArg (Value.int .i64) (IntWalk.i64_in _ (by omega))) ?_
 refine PL.takeOK 9 (fun w_ S_ => OK.index 34 22 1 m.gY_a p2 m.gY_n (i2 + 1).toNat (i2 + 1) (p2.add (i2 + 1).toNat) (by kernel_rfl) (by kernel_rfl) hp2 (by omega) (by omega) (by rw [Nat.mul_one])) rfl ?_
 refine PL.takeOK 10 (fun w_ S_ => OK.ldCell 35 3 (p2.add (i2 + 1).toNat) (.int .i64 (m.gY_l.getD (i2 + 1).toNat 0)) (by kernel_rfl) (by kernel_rfl) (S_.cell hc2)) rfl ?_
 refine PL.take 11 36 (.func (.func 43) #[] #[.pointer (some ⟨b1, 0, none⟩), .pointer (some ⟨b3, 0, none⟩), .pointer (some ⟨b2, 0, none⟩)]) (fun _ _ => by kernel_rfl) ?_
 refine PL.take 12 37 (.int .i64 i2) (fun _ _ => by kernel_rfl) ?_
 refine PL.take 14 39 (.func (.func 43) #[] #[.pointer (some ⟨b1, 0, none⟩), .pointer (some ⟨b3, 0, none⟩), .pointer (some ⟨b2, 0, none⟩)]) (fun _ _ => by kernel_rfl) ?_
 refine PL.take 15 40 (.int .i64 i2) (fun _ _ => by kernel_rfl) ?_
 refine PL.take 16 41 (.int .i64 (IntKind.wrap .i64 (i2 + 1))) (fun _ _ => by kernel_rfl) ?_
 refine PL.head (.int .i64 (i2 + 1)) (congrArg (Value.int .i64) (IntWalk.i64_in _ (by omega))) ?_
 refine PL.take 18 43 (.int .i64 x2) (fun _ _ => by kernel_rfl) ?_
 refine PL.callF 38 43 #[.int .i64 i2, .pointer (some ⟨b1, 0, none⟩), .pointer (some ⟨b3, 0, none⟩), .pointer (some ⟨b2, 0, none⟩)] hb43 (by kernel_rfl) (along_any m i1 x1 i2 b1 b3 b2 _ (mpQ_sep hm S8) hv (by omega) (by omega) (by omega) (S8.nth 2 rfl) (S8.nth 0 rfl) (S8.nth 1 rfl)) ?_
 rintro _ w9 ⟨rfl, T3⟩
 have S9 : Sep w [box b3 [.int .i64 i1] 3, box b2 [.int .i64 x1] 3, box b1 [.slice m.gX_a m.gX_n m.gX_c, .slice m.gY_a m.gY_n m.gY_c, .slice m.gZ_a m.gZ_n m.gZ_c] 25] w9 := S8.trans T3
 refine PB.mk S9 ?_
 refine PL.callF 42 43 #[.int .i64 (i2 + 1), .pointer (some ⟨b1, 0, none⟩), .pointer (some ⟨b3, 0, none⟩), .pointer (some ⟨b2, 0, none⟩)] hb43 (by kernel_rfl) (along_any m i1 x1 (i2 + 1) b1 b3 b2 _ (mpQ_sep hm S9) hv (by omega) (by omega) (by omega) (S9.nth 2 rfl) (S9.nth 0 rfl) (S9.nth 1 rfl)) ?_
 rintro _ w10 ⟨rfl, T4⟩
 have S10 : Sep w [box b3 [.int .i64 i1] 3, box b2 [.int .i64 x1] 3, box b1 [.slice m.gX_a m.gX_n m.gX_c, .slice m.gY_a m.gY_n m.gY_c, .slice m.gZ_a m.gZ_n m.gZ_c] 25] w10 := S9.trans T4
 refine PB.mk S10 ?_
 have hby := hy2 i2.toNat (by omega)
 have hby2 := hy2 (i2 + 1).toNat (by omega)
 have hby3 := axis_mono hv2 (show i2.toNat < (i2 + 1).toNat by omega) (by omega)
 have hzb := btw_bounds (x0 := m.gX_l.getD (i1).toNat 0) (x1 := m.gX_l.getD (i1 + 1).toNat 0) (y0 := (m.gZ_l.getD (i1).toNat rw0).gS_l.getD (i2).toNat 0) (y1 := (m.gZ_l.getD (i1 + 1).toNat rw0).gS_l.getD (i2).toNat 0) (x := x1) (axis_mono hv1 (show i1.toNat < (i1 + 1).toNat by omega) (by omega)) (by omega) (by omega)
 have hzc := (hv4 i1.toNat (by omega)).2 (i2).toNat (by have := (hv4 i1.toNat (by omega)).1; have := row_len hm (i := i1.toNat) (by omega); omega)
 have hzd := (hv4 (i1 + 1).toNat (by omega)).2 (i2).toNat (by have := (hv4 (i1 + 1).toNat (by omega)).1; have := row_len hm (i := (i1 + 1).toNat) (by omega); omega)
 have hzb := btw_bounds (x0 := m.gX_l.getD (i1).toNat 0) (x1 := m.gX_l.getD (i1 + 1).toNat 0) (y0 := (m.gZ_l.getD (i1).toNat rw0).gS_l.getD (i2 + 1).toNat 0) (y1 := (m.gZ_l.getD (i1 + 1).toNat rw0).gS_l.getD (i2 + 1).toNat 0) (x := x1) (axis_mono hv1 (show i1.toNat < (i1 + 1).toNat by omega) (by omega)) (by omega) (by omega)
 have hzc := (hv4 i1.toNat (by omega)).2 (i2 + 1).toNat (by have := (hv4 i1.toNat (by omega)).1; have := row_len hm (i := i1.toNat) (by omega); omega)
 have hzd := (hv4 (i1 + 1).toNat (by omega)).2 (i2 + 1).toNat (by have := (hv4 (i1 + 1).toNat (by omega)).1; have := row_len hm (i := (i1 + 1).toNat) (by omega); omega)
 refine PL.callF 44 44 #[.int .i64 (m.gY_l.getD (i2).toNat 0), .int .i64 (m.gY_l.getD (i2 + 1).toNat 0), .int .i64 (btwF (m.gX_l.getD (i1).toNat 0) (m.gX_l.getD (i1 + 1).toNat 0) ((m.gZ_l.getD (i1).toNat rw0).gS_l.getD (i2).toNat 0) ((m.gZ_l.getD (i1 + 1).toNat rw0).gS_l.getD (i2).toNat 0) x1), .int .i64 (btwF (m.gX_l.getD (i1).toNat 0) (m.gX_l.getD (i1 + 1).toNat 0) ((m.gZ_l.getD (i1).toNat rw0).gS_l.getD (i2 + 1).toNat 0) ((m.gZ_l.getD (i1 + 1).toNat rw0).gS_l.getD (i2 + 1).toNat 0) x1), .int .i64 x2] hb44 (by kernel_rfl) (between_any (m.gY_l.getD (i2).toNat 0) (m.gY_l.getD (i2 + 1).toNat 0) (btwF (m.gX_l.getD (i1).toNat 0) (m.gX_l.getD (i1 + 1).toNat 0) ((m.gZ_l.getD (i1).toNat rw0).gS_l.getD (i2).toNat 0) ((m.gZ_l.getD (i1 + 1).toNat rw0).gS_l.getD (i2).toNat 0) x1) (btwF (m.gX_l.getD (i1).toNat 0) (m.gX_l.getD (i1 + 1).toNat 0) ((m.gZ_l.getD (i1).toNat rw0).gS_l.getD (i2 + 1).toNat 0) ((m.gZ_l.getD (i1 + 1).toNat rw0).gS_l.getD (i2 + 1).toNat 0) x1) x2 _ (by omega) (by omega) (by omega) (by omega) (by omega)) ?_
 rintro _ w11 ⟨rfl, T5⟩
 have S11 : Sep w [box b3 [.int .i64 i1] 3, box b2 [.int .i64 x1] 3, box b1 [.slice m.gX_a m.gX_n m.gX_c, .slice m.gY_a m.gY_n m.gY_c, .slice m.gZ_a m.gZ_n m.gZ_c] 25] w11 := S10.trans T5
 clear T5 S10
 have := btw_bounds (x0 := (m.gY_l.getD (i2).toNat 0)) (x1 := (m.gY_l.getD (i2 + 1).toNat 0)) (y0 := (btwF (m.gX_l.getD (i1).toNat 0) (m.gX_l.getD (i1 + 1).toNat 0) ((m.gZ_l.getD (i1).toNat rw0).gS_l.getD (i2).toNat 0) ((m.gZ_l.getD (i1 + 1).toNat rw0).gS_l.getD (i2).toNat 0) x1)) (y1 := (btwF (m.gX_l.getD (i1).toNat 0) (m.gX_l.getD (i1 + 1).toNat 0) ((m.gZ_l.getD (i1).toNat rw0).gS_l.getD (i2 + 1).toNat 0) ((m.gZ_l.getD (i1 + 1).toNat rw0).gS_l.getD (i2 + 1).toNat 0) x1)) (x := x2) (by omega) (by omega) (by omega)
 refine PB.mk S11 ?_
 refine PL.take 20 6 (.int .i64 (btwF (m.gY_l.getD (i2).toNat 0) (m.gY_l.getD (i2 + 1).toNat 0) (btwF (m.gX_l.getD (i1).toNat 0) (m.gX_l.getD (i1 + 1).toNat 0) ((m.gZ_l.getD (i1).toNat rw0).gS_l.getD (i2).toNat 0) ((m.gZ_l.getD (i1 + 1).toNat rw0).gS_l.getD (i2).toNat 0) x1) (btwF (m.gX_l.getD (i1).toNat 0) (m.gX_l.getD (i1 + 1).toNat 0) ((m.gZ_l.getD (i1).toNat rw0).gS_l.getD (i2 + 1).toNat 0) ((m.gZ_l.getD (i1 + 1).toNat rw0).gS_l.getD (i2 + 1).toNat 0) x1) x2)) (fun _ _ => by kernel_rfl) ?_
 refine PL.done ?_
 refine J.run 0 (rRest K28_5) [(6, .int .i64 (btwF (m.gY_l.getD (i2).toNat 0) (m.gY_l.getD (i2 + 1).toNat 0) (btwF (m.gX_l.getD (i1).toNat 0) (m.gX_l.getD (i1 + 1).toNat 0) ((m.gZ_l.getD (i1).toNat rw0).gS_l.getD (i2).toNat 0) ((m.gZ_l.getD (i1 + 1).toNat rw0).gS_l.getD (i2).toNat 0) x1) (btwF (m.gX_l.getD (i1).toNat 0) (m.gX_l.getD (i1 + 1).toNat 0) ((m.gZ_l.getD (i1).toNat rw0).gS_l.getD (i2 + 1).toNat 0) ((m.gZ_l.getD (i1 + 1).toNat rw0).gS_l.getD (i2 + 1).toNat 0) x1) x2))] w11 (by kernel_rfl) ?_
 refine J.ret Tryz.f28 [.int .i64 (btwF (m.gY_l.getD (i2).toNat 0) (m.gY_l.getD (i2 + 1).toNat 0) (btwF (m.gX_l.getD (i1).toNat 0) (m.gX_l.getD (i1 + 1).toNat 0) ((m.gZ_l.getD (i1).toNat rw0).gS_l.getD (i2).toNat 0) ((m.gZ_l.getD (i1 + 1).toNat rw0).gS_l.getD (i2).toNat 0) x1) (btwF (m.gX_l.getD (i1).toNat 0) (m.gX_l.getD (i1 + 1).toNat 0) ((m.gZ_l.getD (i1).toNat rw0).gS_l.getD (i2 + 1).toNat 0) ((m.gZ_l.getD (i1 + 1).toNat rw0).gS_l.getD (i2 + 1).toNat 0) x1) x2)] Tryz.func28 ⟨by kernel_rfl, trivial⟩ ?_
 refine hR _ _ ?_
 exact ⟨congrArg (Value.int .i64) (value_at (m := m) (x := x) (y := y) (i := i1) (j := i2) (x' := x1) (y' := x2) (by omega) (by omega) hv1 hv2 hs1a hs1b hs1c hs1d hs1e hs2a hs2b hs2c hs2d hs2e), S11.nil⟩

def atF (m : Mp) (x y : Int) : Int := if validM m then valueF m x y else 0
theorem hb11 : HasBody Tryz.prog 11 := fun _ _ => by kernel_rfl
def K11_0 := adv 2 [] (bodyOf Tryz.f11)
def K11_1 := adv 5 [] (popK K11_0)
def K11_2 := adv 2 [] (popK (popK K11_1))
def K11_3 := adv 4 [false] K11_2
def K11_4 := adv 2 [] (popK K11_3)
def K11_5 := adv 2 [] (popK K11_4)
def K11_6 := adv 5 [true] K11_2
set_option maxRecDepth 20000 in
set_option maxHeartbeats 20000000 in
theorem At_any (m : Mp) (x y : Int) (w : World) (hm : mpQ w m) : Ret Tryz.prog 11 #[.agg #[.slice m.gX_a m.gX_n m.gX_c, .slice m.gY_a m.gY_n m.gY_c, .slice m.gZ_a m.gZ_n m.gZ_c], .int .i64 x, .int .i64 y] w (fun v w' => v = .int .i64 (atF m x y) ∧ Sep w [] w') := by
 have S0 := Sep.refl w
 refine Ret.named fun R hR => ?_
 refine Ret.of_J (N := 14) [(0, .agg #[.slice m.gX_a m.gX_n m.gX_c, .slice m.gY_a m.gY_n m.gY_c, .slice m.gZ_a m.gZ_n m.gZ_c]), (1, .int .i64 x), (2, .int .i64 y)] Tryz.func11 rfl rfl (Nat.le_of_ble_eq_true (by kernel_rfl)) (by kernel_rfl) ?_
 obtain ⟨q1, q2, q3, q4, q5, q6, q7, q8, q9, _⟩ := id hm
 have ql1 := q2.len_eq
 have ql2 := q5.len_eq
 have ql3 := q8.len_eq
 refine J.run 2 K11_0 [(0, .agg #[.slice m.gX_a m.gX_n m.gX_c, .slice m.gY_a m.gY_n m.gY_c, .slice m.gZ_a m.gZ_n m.gZ_c]), (1, .int .i64 x), (2, .int .i64 y)] w (by kernel_rfl) ?_
 refine J.new S0 3 [.slice m.gX_a m.gX_n m.gX_c, .slice m.gY_a m.gY_n m.gY_c, .slice m.gZ_a m.gZ_n m.gZ_c] 25 (by kernel_rfl) ?_
 intro b1 w1 S1
 refine J.run 5 K11_1 [(3, .pointer (some ⟨b1, 0, none⟩)), (1, .int .i64 x), (2, .int .i64 y)] w1 (by kernel_rfl) ?_
 refine J.ok (OK.ldBox S1 0 7 25 0 (.agg #[.slice m.gX_a m.gX_n m.gX_c, .slice m.gY_a m.gY_n m.gY_c, .slice m.gZ_a m.gZ_n m.gZ_c]) (by kernel_rfl) rfl (by kernel_rfl)) ?_
 refine J.callF 8 8 #[.agg #[.slice m.gX_a m.gX_n m.gX_c, .slice m.gY_a m.gY_n m.gY_c, .slice m.gZ_a m.gZ_n m.gZ_c]] hb8 (by kernel_rfl) (valid_any m _ (mpQ_sep hm S1)) ?_
 rintro _ w2 ⟨rfl, T1⟩
 have S2 : Sep w [box b1 [.slice m.gX_a m.gX_n m.gX_c, .slice m.gY_a m.gY_n m.gY_c, .slice m.gZ_a m.gZ_n m.gZ_c] 25] w2 := S1.trans T1
 clear T1 S1
 refine J.run 2 K11_2 [(9, .bool (!(validM m))), (3, .pointer (some ⟨b1, 0, none⟩)), (1, .int .i64 x), (2, .int .i64 y)] w2 (by kernel_rfl) ?_
 rcases Bool.eq_false_or_eq_true (validM m) with fk1 | fk1
 rotate_left
 ·skip
  refine J.head (.bool true) (congrArg Value.bool (by rw [fk1]; rfl)) ?_
  refine J.run 5 K11_6 [(6, .int .i64 0)] w2 (by kernel_rfl) ?_
  refine J.ret Tryz.f11 [.int .i64 0] Tryz.func11 ⟨by kernel_rfl, trivial⟩ ?_
  refine hR _ _ ?_
  exact ⟨congrArg (Value.int .i64) (by unfold atF; rw [fk1]; rfl), S2.nil⟩
 refine J.head (.bool false) (congrArg Value.bool (by rw [fk1]; rfl)) ?_
 have hv := fk1
 refine J.run 4 K11_3 [(3, .pointer (some ⟨b1, 0, none⟩)), (1, .int .i64 x), (2, .int .i64 y)] w2 (by kernel_rfl) ?_
 refine J.ok (OK.ldBox S2 0 10 25 0 (.agg #[.slice m.gX_a m.gX_n m.gX_c, .slice m.gY_a m.gY_n m.gY_c, .slice m.gZ_a m.gZ_n m.gZ_c]) (by kernel_rfl) rfl (by kernel_rfl)) ?_
 refine J.run 2 K11_4 [(12, .int .i64 y), (11, .int .i64 x), (10, .agg #[.slice m.gX_a m.gX_n m.gX_c, .slice m.gY_a m.gY_n m.gY_c, .slice m.gZ_a m.gZ_n m.gZ_c])] w2 (by kernel_rfl) ?_
 refine J.callF 13 28 #[.agg #[.slice m.gX_a m.gX_n m.gX_c, .slice m.gY_a m.gY_n m.gY_c, .slice m.gZ_a m.gZ_n m.gZ_c], .int .i64 x, .int .i64 y] hb28 (by kernel_rfl) (at_any m x y _ (mpQ_sep hm S2) hv) ?_
 rintro _ w3 ⟨rfl, T2⟩
 have S3 : Sep w [box b1 [.slice m.gX_a m.gX_n m.gX_c, .slice m.gY_a m.gY_n m.gY_c, .slice m.gZ_a m.gZ_n m.gZ_c] 25] w3 := S2.trans T2
 clear T2 S2
 refine J.run 2 K11_5 [(6, .int .i64 (valueF m x y))] w3 (by kernel_rfl) ?_
 refine J.ret Tryz.f11 [.int .i64 (valueF m x y)] Tryz.func11 ⟨by kernel_rfl, trivial⟩ ?_
 refine hR _ _ ?_
 exact ⟨congrArg (Value.int .i64) (by unfold atF; rw [fk1]; rfl), S3.nil⟩

end
end Go.Proofs.YtadgnficogeheaaGreatDoor

