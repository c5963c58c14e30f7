/- Walks of functions of this seat, printed by a program over the engine. Conditions: as each theorem says. -/
import Derived.Test.YtaoolgcddapegaaGreatDoorZlShelf
namespace Go.Proofs.YtaoolgcddapegaaGreatDoor
open Go.Eng Go.RowKit
set_option linter.unusedSimpArgs false
set_option linter.unusedVariables false
set_option maxRecDepth 20000
set_option maxHeartbeats 20000000
theorem hb157 : HasBody Tryz.prog 157 := fun _ _ => by kernel_rfl

theorem along_any (m : Mp) (i x j : Int) (bx1 bx2 bx3 : Nat) (w : World) (hm : mpQ w m) (hv : validM m = true) (hi : 0 ≤ i ∧ i + 1 < (m.gX_n : Int)) (hj : 0 ≤ j ∧ j < (m.gY_n : Int)) (hx : m.gX_l.getD (i).toNat 0 ≤ x ∧ x ≤ m.gX_l.getD (i + 1).toNat 0) (hb1 : (box bx1 (mpC m) 62).holds w) (hb2 : (box bx2 [iv i] 3).holds w) (hb3 : (box bx3 [iv x] 3).holds w) : Ret Tryz.prog 157 #[iv j, pv bx1, pv bx2, pv bx3] w (fun v w' => v = iv (btwF (m.gX_l.getD (i).toNat 0) (m.gX_l.getD (i + 1).toNat 0) ((m.gZ_l.getD (i).toNat rw0).gS_l.getD (j).toNat 0) ((m.gZ_l.getD (i + 1).toNat rw0).gS_l.getD (j).toNat 0) x) ∧ Sep w [] w') := by
 refine Ret.st (N := 36) Tryz.func157 fun R hR S0 => ?_
 obtain ⟨q1, q2, q3, q4, q5, q6, q7, q8, q9, _⟩ := id hm
 have ql1 := q2.len_eq
 have ql2 := q5.len_eq
 have ql3 := q8.len_eq
 obtain ⟨hv1, hv2, hv3, hv4⟩ := valid_facts hv
 obtain ⟨hx1, hx2, hx3⟩ := axis_facts hv1
 obtain ⟨hy1, hy2, hy3⟩ := axis_facts hv2
 have ha1 := hx2 i.toNat (by omega)
 have ha2 := hx2 (i + 1).toNat (by omega)
 have ha3 := axis_mono hv1 (show i.toNat < (i + 1).toNat by omega) (by omega)
 obtain ⟨hz1, hz2⟩ := hv4 i.toNat (by omega)
 obtain ⟨hz3, hz4⟩ := hv4 (i + 1).toNat (by omega)
 refine J.r 5 [] [] [] ?_
 obtain ⟨p1, hp1, hc1⟩ := q2.at 0 (i).toNat (by omega)
 have hel1 := getD_Q q3 0 (n := (i).toNat) (by have := q2.len_eq; omega)
 obtain ⟨p2, hp2, hc2⟩ := q2.at 0 (i + 1).toNat (by omega)
 have hel2 := getD_Q q3 0 (n := (i + 1).toNat) (by have := q2.len_eq; omega)
 obtain ⟨p3, hp3, hc3⟩ := q8.at rw0 (i).toNat (by omega)
 have hel3 := getD_Q q9 rw0 (n := (i).toNat) (by have := q8.len_eq; omega)
 obtain ⟨q10, q11, q12, _⟩ := id hel3
 have ql4 := q11.len_eq
 obtain ⟨p4, hp4, hc4⟩ := q11.at 0 (j).toNat (by omega)
 have hel4 := getD_Q q12 0 (n := (j).toNat) (by have := q11.len_eq; omega)
 obtain ⟨p5, hp5, hc5⟩ := q8.at rw0 (i + 1).toNat (by omega)
 have hel5 := getD_Q q9 rw0 (n := (i + 1).toNat) (by have := q8.len_eq; omega)
 obtain ⟨q13, q14, q15, _⟩ := id hel5
 have ql5 := q14.len_eq
 obtain ⟨p6, hp6, hc6⟩ := q14.at 0 (j).toNat (by omega)
 have hel6 := getD_Q q15 0 (n := (j).toNat) (by have := q14.len_eq; omega)
 refine J.drawTail S0 29 Tryz.mixed (by kernel_rfl) (by kernel_rfl) ?_
 intro w1 S1
 refine SL.r 6 (pv bx1) ?_
 refine SL.ok (by decide) (OK.ldRo S1 hb1 7 26 0 (.slice m.gX_a m.gX_n m.gX_c) (by kernel_rfl) (by kernel_rfl)) ?_
 refine SL.ok (by decide) (OK.ldRo S1 hb2 8 3 0 (iv i) (by kernel_rfl) (by kernel_rfl)) ?_
 refine SL.ok (by decide) (OK.index 9 26 1 m.gX_a p1 m.gX_n (i).toNat i (p1.add (i).toNat) (by kernel_rfl) (by kernel_rfl) hp1 (by omega) (by omega) (by rw [Nat.mul_one])) ?_
 refine SL.ok (by decide) (OK.ldCell 10 3 (p1.add (i).toNat) (iv (m.gX_l.getD (i).toNat 0)) (by kernel_rfl) (by kernel_rfl) (S1.cell hc1)) ?_
 refine SL.r 11 (pv bx1) ?_
 refine SL.ok (by decide) (OK.ldRo S1 hb1 12 26 0 (.slice m.gX_a m.gX_n m.gX_c) (by kernel_rfl) (by kernel_rfl)) ?_
 refine SL.ok (by decide) (OK.ldRo S1 hb2 13 3 0 (iv i) (by kernel_rfl) (by kernel_rfl)) ?_
 refine SL.r 14 (iv (IntKind.wrap .i64 (i + 1))) ?_
 refine SL.head (iv (i + 1)) (congrArg (Value.int .i64) (IntWalk.i64_in _ (by omega))) ?_
 refine SL.ok (by decide) (OK.index 15 26 1 m.gX_a p2 m.gX_n (i + 1).toNat (i + 1) (p2.add (i + 1).toNat) (by kernel_rfl) (by kernel_rfl) hp2 (by omega) (by omega) (by rw [Nat.mul_one])) ?_
 refine SL.ok (by decide) (OK.ldCell 16 3 (p2.add (i + 1).toNat) (iv (m.gX_l.getD (i + 1).toNat 0)) (by kernel_rfl) (by kernel_rfl) (S1.cell hc2)) ?_
 refine SL.r 17 (.pointer (some ⟨bx1, 2, none⟩)) ?_
 refine SL.ok (by decide) (OK.ldRo S1 hb1 18 60 2 (.slice m.gZ_a m.gZ_n m.gZ_c) (by kernel_rfl) (by kernel_rfl)) ?_
 refine SL.ok (by decide) (OK.ldRo S1 hb2 19 3 0 (iv i) (by kernel_rfl) (by kernel_rfl)) ?_
 refine SL.ok (by decide) (OK.index 20 60 1 m.gZ_a p3 m.gZ_n (i).toNat i (p3.add ((i).toNat * 1)) (by kernel_rfl) (by kernel_rfl) hp3 (by omega) (by omega) rfl) ?_
 refine SL.ok (by decide) (OK.ldCell 21 26 (p3.add ((i).toNat * 1)) (.slice ((m.gZ_l.getD (i).toNat rw0).gS_a) ((m.gZ_l.getD (i).toNat rw0).gS_n) ((m.gZ_l.getD (i).toNat rw0).gS_c)) (by kernel_rfl) (by kernel_rfl) (S1.cell (cell_zero (hc3 0 _ rfl)))) ?_
 refine SL.r 22 (iv j) ?_
 refine SL.ok (by decide) (OK.index 23 26 1 ((m.gZ_l.getD (i).toNat rw0).gS_a) p4 ((m.gZ_l.getD (i).toNat rw0).gS_n) (j).toNat j (p4.add (j).toNat) (by kernel_rfl) (by kernel_rfl) hp4 (by omega) (by omega) (by rw [Nat.mul_one])) ?_
 refine SL.ok (by decide) (OK.ldCell 24 3 (p4.add (j).toNat) (iv (((m.gZ_l.getD (i).toNat rw0).gS_l).getD (j).toNat 0)) (by kernel_rfl) (by kernel_rfl) (S1.cell hc4)) ?_
 refine SL.r 25 (.pointer (some ⟨bx1, 2, none⟩)) ?_
 refine SL.ok (by decide) (OK.ldRo S1 hb1 26 60 2 (.slice m.gZ_a m.gZ_n m.gZ_c) (by kernel_rfl) (by kernel_rfl)) ?_
 refine SL.ok (by decide) (OK.ldRo S1 hb2 27 3 0 (iv i) (by kernel_rfl) (by kernel_rfl)) ?_
 refine SL.r 28 (iv (IntKind.wrap .i64 (i + 1))) ?_
 refine SL.head (iv (i + 1)) (congrArg (Value.int .i64) (IntWalk.i64_in _ (by omega))) ?_
 refine SL.ok (by decide) (OK.index 29 60 1 m.gZ_a p5 m.gZ_n (i + 1).toNat (i + 1) (p5.add ((i + 1).toNat * 1)) (by kernel_rfl) (by kernel_rfl) hp5 (by omega) (by omega) rfl) ?_
 refine SL.ok (by decide) (OK.ldCell 30 26 (p5.add ((i + 1).toNat * 1)) (.slice ((m.gZ_l.getD (i + 1).toNat rw0).gS_a) ((m.gZ_l.getD (i + 1).toNat rw0).gS_n) ((m.gZ_l.getD (i + 1).toNat rw0).gS_c)) (by kernel_rfl) (by kernel_rfl) (S1.cell (cell_zero (hc5 0 _ rfl)))) ?_
 refine SL.r 31 (iv j) ?_
 refine SL.ok (by decide) (OK.index 32 26 1 ((m.gZ_l.getD (i + 1).toNat rw0).gS_a) p6 ((m.gZ_l.getD (i + 1).toNat rw0).gS_n) (j).toNat j (p6.add (j).toNat) (by kernel_rfl) (by kernel_rfl) hp6 (by omega) (by omega) (by rw [Nat.mul_one])) ?_
 refine SL.ok (by decide) (OK.ldCell 33 3 (p6.add (j).toNat) (iv (((m.gZ_l.getD (i + 1).toNat rw0).gS_l).getD (j).toNat 0)) (by kernel_rfl) (by kernel_rfl) (S1.cell hc6)) ?_
 refine SL.ok (by decide) (OK.ldRo S1 hb3 34 3 0 (iv x) (by kernel_rfl) (by kernel_rfl)) ?_
 refine SL.done ?_
 have hz5 := hz2 j.toNat (by omega)
 have hz6 := hz4 j.toNat (by omega)
 refine TL.callF 35 158 #[iv (m.gX_l.getD (i).toNat 0), iv (m.gX_l.getD (i + 1).toNat 0), iv (((m.gZ_l.getD (i).toNat rw0).gS_l).getD (j).toNat 0), iv (((m.gZ_l.getD (i + 1).toNat rw0).gS_l).getD (j).toNat 0), iv x] hb158 (by kernel_rfl) (between_any (m.gX_l.getD (i).toNat 0) (m.gX_l.getD (i + 1).toNat 0) (((m.gZ_l.getD (i).toNat rw0).gS_l).getD (j).toNat 0) (((m.gZ_l.getD (i + 1).toNat rw0).gS_l).getD (j).toNat 0) x _ (by omega) (by omega) (by omega) (by omega) (by omega)) ?_
 rintro _ w2 ⟨rfl, T1⟩
 have S2 : Sep w [] w2 := S1.trans T1
 clear T1 S1
 have := btw_bounds (x0 := (m.gX_l.getD (i).toNat 0)) (x1 := (m.gX_l.getD (i + 1).toNat 0)) (y0 := (((m.gZ_l.getD (i).toNat rw0).gS_l).getD (j).toNat 0)) (y1 := (((m.gZ_l.getD (i + 1).toNat rw0).gS_l).getD (j).toNat 0)) (x := x) (by omega) (by omega) (by omega)
 refine TL.r 5 (iv (btwF (m.gX_l.getD (i).toNat 0) (m.gX_l.getD (i + 1).toNat 0) (((m.gZ_l.getD (i).toNat rw0).gS_l).getD (j).toNat 0) (((m.gZ_l.getD (i + 1).toNat rw0).gS_l).getD (j).toNat 0) x)) ?_
 refine TL.done (by kernel_rfl) ?_
 refine J.e 0 [iv (btwF (m.gX_l.getD (i).toNat 0) (m.gX_l.getD (i + 1).toNat 0) (((m.gZ_l.getD (i).toNat rw0).gS_l).getD (j).toNat 0) (((m.gZ_l.getD (i + 1).toNat rw0).gS_l).getD (j).toNat 0) x)] Tryz.func157 (hR _ _ ?_)
 exact ⟨rfl, S2.nil⟩

def colZ (m : Mp) (j : Nat) : List Int := (List.range m.gX_n).map fun i => zF m i j
def colF (m : Mp) (x : Int) : List Int := (List.range m.gY_n).map fun j => curveF m.gX_l (colZ m j) x
def valueF (m : Mp) (x y : Int) : Int := curveF m.gY_l (colF m x) y
theorem colZ_getD (m : Mp) {i j : Nat} (h : i < m.gX_n) : (colZ m j).getD i 0 = zF m i j := by simp [colZ, List.getD, h]
theorem colF_getD (m : Mp) (x : Int) {j : Nat} (h : j < m.gY_n) : (colF m x).getD j 0 = curveF m.gX_l (colZ m j) x := by simp [colF, List.getD, h]
theorem value_at {m : Mp} {x y i j x' y' : Int} (hX : m.gX_l.length = m.gX_n) (hY : m.gY_l.length = m.gY_n) (ax : axisB m.gX_l = true) (ay : axisB m.gY_l = true)
    (a1 : x' = min (max x (m.gX_l.getD 0 0)) (m.gX_l.getD (m.gX_l.length - 1) 0)) (a2 : 0 ≤ i ∧ i + 1 < (m.gX_l.length : Int)) (a3 : m.gX_l.getD i.toNat 0 ≤ x') (a4 : x' ≤ m.gX_l.getD (i + 1).toNat 0) (a5 : x' < m.gX_l.getD (i + 1).toNat 0 ∨ i + 2 = (m.gX_l.length : Int))
    (b1 : y' = min (max y (m.gY_l.getD 0 0)) (m.gY_l.getD (m.gY_l.length - 1) 0)) (b2 : 0 ≤ j ∧ j + 1 < (m.gY_l.length : Int)) (b3 : m.gY_l.getD j.toNat 0 ≤ y') (b4 : y' ≤ m.gY_l.getD (j + 1).toNat 0) (b5 : y' < m.gY_l.getD (j + 1).toNat 0 ∨ j + 2 = (m.gY_l.length : Int)) :
    btwF (m.gY_l.getD j.toNat 0) (m.gY_l.getD (j + 1).toNat 0)
      (btwF (m.gX_l.getD i.toNat 0) (m.gX_l.getD (i + 1).toNat 0) ((m.gZ_l.getD i.toNat rw0).gS_l.getD j.toNat 0) ((m.gZ_l.getD (i + 1).toNat rw0).gS_l.getD j.toNat 0) x')
      (btwF (m.gX_l.getD i.toNat 0) (m.gX_l.getD (i + 1).toNat 0) ((m.gZ_l.getD i.toNat rw0).gS_l.getD (j + 1).toNat 0) ((m.gZ_l.getD (i + 1).toNat rw0).gS_l.getD (j + 1).toNat 0) x') y' = valueF m x y := by
  have ei : (i + 1).toNat = i.toNat + 1 := by omega
  have ej : (j + 1).toNat = j.toNat + 1 := by omega
  rw [ei] at a4 a5 ⊢
  rw [ej] at b4 b5 ⊢
  have key : ∀ k : Nat, btwF (m.gX_l.getD i.toNat 0) (m.gX_l.getD (i.toNat + 1) 0) ((m.gZ_l.getD i.toNat rw0).gS_l.getD k 0) ((m.gZ_l.getD (i.toNat + 1) rw0).gS_l.getD k 0) x' = curveF m.gX_l (colZ m k) x := by
    intro k
    rw [curve_seg (i := i.toNat) ax (by omega) a3 a4 (by omega) a1, colZ_getD m (by omega), colZ_getD m (by omega)]; rfl
  rw [key, key]
  unfold valueF
  rw [curve_seg (i := j.toNat) ay (by omega) b3 b4 (by omega) b1, colF_getD m x (by omega), colF_getD m x (by omega)]

theorem row_len {w : World} {m : Mp} (hm : mpQ w m) {i : Nat} (hi : i < m.gZ_l.length) : (m.gZ_l.getD i rw0).gS_l.length = (m.gZ_l.getD i rw0).gS_n := (getD_Q hm.2.2.2.2.2.2.2.2.1 rw0 hi).2.1.len_eq
theorem hb108 : HasBody Tryz.prog 108 := fun _ _ => by kernel_rfl

theorem at_any (m : Mp) (x y : Int) (w : World) (hm : mpQ w m) (hv : validM m = true) : Ret Tryz.prog 108 #[.agg (mpA m), iv x, iv y] w (fun v w' => v = iv (valueF m x y) ∧ Sep w [] w') := by
 refine Ret.st (N := 45) Tryz.func108 fun R hR S0 => ?_
 obtain ⟨q1, q2, q3, q4, q5, q6, q7, q8, q9, _⟩ := id hm
 have ql1 := q2.len_eq
 have ql2 := q5.len_eq
 have ql3 := q8.len_eq
 obtain ⟨hv1, hv2, hv3, hv4⟩ := valid_facts hv
 obtain ⟨hx1, hx2, hx3⟩ := axis_facts hv1
 obtain ⟨hy1, hy2, hy3⟩ := axis_facts hv2
 refine J.nw 2 [] [] [] S0 3 (mpC m) 62 fun b1 w1 S1 => ?_
 refine J.nw 0 [] [] [] S1 4 [iv x] 3 fun b2 w2 S2 => ?_
 refine J.lb 5 [] [] [] S2 1 rfl 12 (.slice m.gX_a m.gX_n m.gX_c) ?_
 refine J.lb 0 [] [] [] S2 0 rfl 13 (iv x) ?_
 refine J.callF 14 156 #[.slice m.gX_a m.gX_n m.gX_c, iv x] hb156 (by kernel_rfl) (segment_any m.gX_a m.gX_n m.gX_c m.gX_l x _ (q2.sep S2) (by omega) hv1) ?_
 rintro _ w3 ⟨i1, x1, rfl, ⟨hs1a, hs1b, hs1c, hs1d, hs1e⟩, T1⟩
 have S3 : Sep w [box b2 [iv x] 3, box b1 (mpC m) 62] w3 := S2.trans T1
 refine J.nw 3 [] [(16, iv x1), (15, iv i1)] [] S3 7 [iv 0] 3 fun b3 w4 S4 => ?_
 refine J.sb 0 [] [] [] S4 0 rfl [iv i1] rfl fun w5 S5 => ?_
 refine J.sb 0 [] [] [] S5 1 rfl [iv x1] rfl fun w6 S6 => ?_
 refine J.lb 4 [] [] [] S6 2 rfl 19 (.slice m.gY_a m.gY_n m.gY_c) ?_
 refine J.r 1 [] [(20, iv y)] [] ?_
 refine J.callF 21 156 #[.slice m.gY_a m.gY_n m.gY_c, iv y] hb156 (by kernel_rfl) (segment_any m.gY_a m.gY_n m.gY_c m.gY_l y _ (q5.sep S6) (by omega) hv2) ?_
 rintro _ w7 ⟨i2, x2, rfl, ⟨hs2a, hs2b, hs2c, hs2d, hs2e⟩, T2⟩
 have S7 : Sep w [box b3 [iv i1] 3, box b2 [iv x1] 3, box b1 (mpC m) 62] w7 := S6.trans T2
 refine J.r 12 [] [(9, .func (.func 157) #[] #[pv b1, pv b3, pv b2]), (2, iv x2), (8, iv i2)] [] ?_
 obtain ⟨p1, hp1, hc1⟩ := q5.at 0 (i2).toNat (by omega)
 have hel1 := getD_Q q6 0 (n := (i2).toNat) (by have := q5.len_eq; omega)
 obtain ⟨p2, hp2, hc2⟩ := q5.at 0 (i2 + 1).toNat (by omega)
 have hel2 := getD_Q q6 0 (n := (i2 + 1).toNat) (by have := q5.len_eq; omega)
 refine J.drawPlan (fun w_ => Sep w [box b3 [iv i1] 3, box b2 [iv x1] 3, box b1 (mpC m) 62] w_) [(0, true), (1, true), (2, true), (3, true), (4, true), (5, true), (6, true), (7, true), (8, true), (9, true), (10, true), (11, true), (12, true), (14, true), (15, true), (16, true), (18, true), (13, false), (17, false), (19, false), (20, true)] S7 Tryz.mixed (by kernel_rfl) (planOK_of (T := [(0, some 25, 8), (1, some 26, 33554432), (0, some 27, 256), (6, some 28, 201326592), (8, some 29, 268435456), (0, some 30, 8), (32, some 31, 1073741824), (0, some 32, 256), (128, some 33, 4294967296), (320, some 34, 10737418240), (512, some 35, 17179869184), (0, some 36, 512), (0, some 37, 256), (6144, some 38, 206158430208), (0, some 39, 512), (0, some 40, 256), (32768, some 41, 1099511627776), (90112, some 42, 2748779069440), (0, some 43, 4), (402448, some 44, 13503914049536), (1048575, some 6, 17592186044416)]) (by kernel_rfl) (by kernel_rfl)) ?_
 intro w8 S8
 refine PB.mk S8 ?_
 refine PL.take 0 25 (.pointer (some ⟨b1, 1, none⟩)) (fun _ _ => by kernel_rfl) ?_
 refine PL.takeOK 1 (fun w_ S_ => OK.ldBox S_ 2 26 26 1 (.slice m.gY_a m.gY_n m.gY_c) (by kernel_rfl) rfl (by kernel_rfl)) rfl ?_
 refine PL.take 2 27 (iv i2) (fun _ _ => by kernel_rfl) ?_
 refine PL.takeOK 3 (fun w_ S_ => OK.index 28 26 1 m.gY_a p1 m.gY_n (i2).toNat i2 (p1.add (i2).toNat) (by kernel_rfl) (by kernel_rfl) hp1 (by omega) (by omega) (by rw [Nat.mul_one])) rfl ?_
 refine PL.takeOK 4 (fun w_ S_ => OK.ldCell 29 3 (p1.add (i2).toNat) (iv (m.gY_l.getD (i2).toNat 0)) (by kernel_rfl) (by kernel_rfl) (S_.cell hc1)) rfl ?_
 refine PL.take 5 30 (.pointer (some ⟨b1, 1, none⟩)) (fun _ _ => by kernel_rfl) ?_
 refine PL.takeOK 6 (fun w_ S_ => OK.ldBox S_ 2 31 26 1 (.slice m.gY_a m.gY_n m.gY_c) (by kernel_rfl) rfl (by kernel_rfl)) rfl ?_
 refine PL.take 7 32 (iv i2) (fun _ _ => by kernel_rfl) ?_
 refine PL.take 8 33 (iv (IntKind.wrap .i64 (i2 + 1))) (fun _ _ => by kernel_rfl) ?_
 refine PL.head (iv (i2 + 1)) (congrArg (Value.int .i64) (IntWalk.i64_in _ (by omega))) ?_
 refine PL.takeOK 9 (fun w_ S_ => OK.index 34 26 1 m.gY_a p2 m.gY_n (i2 + 1).toNat (i2 + 1) (p2.add (i2 + 1).toNat) (by kernel_rfl) (by kernel_rfl) hp2 (by omega) (by omega) (by rw [Nat.mul_one])) rfl ?_
 refine PL.takeOK 10 (fun w_ S_ => OK.ldCell 35 3 (p2.add (i2 + 1).toNat) (iv (m.gY_l.getD (i2 + 1).toNat 0)) (by kernel_rfl) (by kernel_rfl) (S_.cell hc2)) rfl ?_
 refine PL.take 11 36 (.func (.func 157) #[] #[pv b1, pv b3, pv b2]) (fun _ _ => by kernel_rfl) ?_
 refine PL.take 12 37 (iv i2) (fun _ _ => by kernel_rfl) ?_
 refine PL.take 14 39 (.func (.func 157) #[] #[pv b1, pv b3, pv b2]) (fun _ _ => by kernel_rfl) ?_
 refine PL.take 15 40 (iv i2) (fun _ _ => by kernel_rfl) ?_
 refine PL.take 16 41 (iv (IntKind.wrap .i64 (i2 + 1))) (fun _ _ => by kernel_rfl) ?_
 refine PL.head (iv (i2 + 1)) (congrArg (Value.int .i64) (IntWalk.i64_in _ (by omega))) ?_
 refine PL.take 18 43 (iv x2) (fun _ _ => by kernel_rfl) ?_
 refine PL.callF 38 157 #[iv i2, pv b1, pv b3, pv b2] hb157 (by kernel_rfl) (along_any m i1 x1 i2 b1 b3 b2 _ (mpQ_sep hm S8) hv (by omega) (by omega) (by omega) (S8.nth 2 rfl) (S8.nth 0 rfl) (S8.nth 1 rfl)) ?_
 rintro _ w9 ⟨rfl, T3⟩
 have S9 : Sep w [box b3 [iv i1] 3, box b2 [iv x1] 3, box b1 (mpC m) 62] w9 := S8.trans T3
 refine PB.mk S9 ?_
 refine PL.callF 42 157 #[iv (i2 + 1), pv b1, pv b3, pv b2] hb157 (by kernel_rfl) (along_any m i1 x1 (i2 + 1) b1 b3 b2 _ (mpQ_sep hm S9) hv (by omega) (by omega) (by omega) (S9.nth 2 rfl) (S9.nth 0 rfl) (S9.nth 1 rfl)) ?_
 rintro _ w10 ⟨rfl, T4⟩
 have S10 : Sep w [box b3 [iv i1] 3, box b2 [iv x1] 3, box b1 (mpC m) 62] w10 := S9.trans T4
 refine PB.mk S10 ?_
 have hby := hy2 i2.toNat (by omega)
 have hby2 := hy2 (i2 + 1).toNat (by omega)
 have hby3 := axis_mono hv2 (show i2.toNat < (i2 + 1).toNat by omega) (by omega)
 have hzb := btw_bounds (x0 := m.gX_l.getD (i1).toNat 0) (x1 := m.gX_l.getD (i1 + 1).toNat 0) (y0 := (m.gZ_l.getD (i1).toNat rw0).gS_l.getD (i2).toNat 0) (y1 := (m.gZ_l.getD (i1 + 1).toNat rw0).gS_l.getD (i2).toNat 0) (x := x1) (axis_mono hv1 (show i1.toNat < (i1 + 1).toNat by omega) (by omega)) (by omega) (by omega)
 have hzc := (hv4 i1.toNat (by omega)).2 (i2).toNat (by have := (hv4 i1.toNat (by omega)).1; have := row_len hm (i := i1.toNat) (by omega); omega)
 have hzd := (hv4 (i1 + 1).toNat (by omega)).2 (i2).toNat (by have := (hv4 (i1 + 1).toNat (by omega)).1; have := row_len hm (i := (i1 + 1).toNat) (by omega); omega)
 have hzb := btw_bounds (x0 := m.gX_l.getD (i1).toNat 0) (x1 := m.gX_l.getD (i1 + 1).toNat 0) (y0 := (m.gZ_l.getD (i1).toNat rw0).gS_l.getD (i2 + 1).toNat 0) (y1 := (m.gZ_l.getD (i1 + 1).toNat rw0).gS_l.getD (i2 + 1).toNat 0) (x := x1) (axis_mono hv1 (show i1.toNat < (i1 + 1).toNat by omega) (by omega)) (by omega) (by omega)
 have hzc := (hv4 i1.toNat (by omega)).2 (i2 + 1).toNat (by have := (hv4 i1.toNat (by omega)).1; have := row_len hm (i := i1.toNat) (by omega); omega)
 have hzd := (hv4 (i1 + 1).toNat (by omega)).2 (i2 + 1).toNat (by have := (hv4 (i1 + 1).toNat (by omega)).1; have := row_len hm (i := (i1 + 1).toNat) (by omega); omega)
 refine PL.callF 44 158 #[iv (m.gY_l.getD (i2).toNat 0), iv (m.gY_l.getD (i2 + 1).toNat 0), iv (btwF (m.gX_l.getD (i1).toNat 0) (m.gX_l.getD (i1 + 1).toNat 0) ((m.gZ_l.getD (i1).toNat rw0).gS_l.getD (i2).toNat 0) ((m.gZ_l.getD (i1 + 1).toNat rw0).gS_l.getD (i2).toNat 0) x1), iv (btwF (m.gX_l.getD (i1).toNat 0) (m.gX_l.getD (i1 + 1).toNat 0) ((m.gZ_l.getD (i1).toNat rw0).gS_l.getD (i2 + 1).toNat 0) ((m.gZ_l.getD (i1 + 1).toNat rw0).gS_l.getD (i2 + 1).toNat 0) x1), iv x2] hb158 (by kernel_rfl) (between_any (m.gY_l.getD (i2).toNat 0) (m.gY_l.getD (i2 + 1).toNat 0) (btwF (m.gX_l.getD (i1).toNat 0) (m.gX_l.getD (i1 + 1).toNat 0) ((m.gZ_l.getD (i1).toNat rw0).gS_l.getD (i2).toNat 0) ((m.gZ_l.getD (i1 + 1).toNat rw0).gS_l.getD (i2).toNat 0) x1) (btwF (m.gX_l.getD (i1).toNat 0) (m.gX_l.getD (i1 + 1).toNat 0) ((m.gZ_l.getD (i1).toNat rw0).gS_l.getD (i2 + 1).toNat 0) ((m.gZ_l.getD (i1 + 1).toNat rw0).gS_l.getD (i2 + 1).toNat 0) x1) x2 _ (by omega) (by omega) (by omega) (by omega) (by omega)) ?_
 rintro _ w11 ⟨rfl, T5⟩
 have S11 : Sep w [box b3 [iv i1] 3, box b2 [iv x1] 3, box b1 (mpC m) 62] w11 := S10.trans T5
 clear T5 S10
 have := btw_bounds (x0 := (m.gY_l.getD (i2).toNat 0)) (x1 := (m.gY_l.getD (i2 + 1).toNat 0)) (y0 := (btwF (m.gX_l.getD (i1).toNat 0) (m.gX_l.getD (i1 + 1).toNat 0) ((m.gZ_l.getD (i1).toNat rw0).gS_l.getD (i2).toNat 0) ((m.gZ_l.getD (i1 + 1).toNat rw0).gS_l.getD (i2).toNat 0) x1)) (y1 := (btwF (m.gX_l.getD (i1).toNat 0) (m.gX_l.getD (i1 + 1).toNat 0) ((m.gZ_l.getD (i1).toNat rw0).gS_l.getD (i2 + 1).toNat 0) ((m.gZ_l.getD (i1 + 1).toNat rw0).gS_l.getD (i2 + 1).toNat 0) x1)) (x := x2) (by omega) (by omega) (by omega)
 refine PB.mk S11 ?_
 refine PL.take 20 6 (iv (btwF (m.gY_l.getD (i2).toNat 0) (m.gY_l.getD (i2 + 1).toNat 0) (btwF (m.gX_l.getD (i1).toNat 0) (m.gX_l.getD (i1 + 1).toNat 0) ((m.gZ_l.getD (i1).toNat rw0).gS_l.getD (i2).toNat 0) ((m.gZ_l.getD (i1 + 1).toNat rw0).gS_l.getD (i2).toNat 0) x1) (btwF (m.gX_l.getD (i1).toNat 0) (m.gX_l.getD (i1 + 1).toNat 0) ((m.gZ_l.getD (i1).toNat rw0).gS_l.getD (i2 + 1).toNat 0) ((m.gZ_l.getD (i1 + 1).toNat rw0).gS_l.getD (i2 + 1).toNat 0) x1) x2)) (fun _ _ => by kernel_rfl) ?_
 refine PL.done ?_
 refine J.e 0 [iv (btwF (m.gY_l.getD (i2).toNat 0) (m.gY_l.getD (i2 + 1).toNat 0) (btwF (m.gX_l.getD (i1).toNat 0) (m.gX_l.getD (i1 + 1).toNat 0) ((m.gZ_l.getD (i1).toNat rw0).gS_l.getD (i2).toNat 0) ((m.gZ_l.getD (i1 + 1).toNat rw0).gS_l.getD (i2).toNat 0) x1) (btwF (m.gX_l.getD (i1).toNat 0) (m.gX_l.getD (i1 + 1).toNat 0) ((m.gZ_l.getD (i1).toNat rw0).gS_l.getD (i2 + 1).toNat 0) ((m.gZ_l.getD (i1 + 1).toNat rw0).gS_l.getD (i2 + 1).toNat 0) x1) x2)] Tryz.func108 (hR _ _ ?_)
 exact ⟨congrArg (Value.int .i64) (value_at (m := m) (x := x) (y := y) (i := i1) (j := i2) (x' := x1) (y' := x2) (by omega) (by omega) hv1 hv2 hs1a hs1b hs1c hs1d hs1e hs2a hs2b hs2c hs2d hs2e), S11.nil⟩

def atF (m : Mp) (x y : Int) : Int := if validM m then valueF m x y else 0
theorem hb64 : HasBody Tryz.prog 64 := fun _ _ => by kernel_rfl

theorem At_any (m : Mp) (x y : Int) (w : World) (hm : mpQ w m) : Ret Tryz.prog 64 #[.agg (mpA m), iv x, iv y] w (fun v w' => v = iv (atF m x y) ∧ Sep w [] w') := by
 refine Ret.st (N := 14) Tryz.func64 fun R hR S0 => ?_
 obtain ⟨q1, q2, q3, q4, q5, q6, q7, q8, q9, _⟩ := id hm
 have ql1 := q2.len_eq
 have ql2 := q5.len_eq
 have ql3 := q8.len_eq
 refine J.nw 2 [] [] [] S0 3 (mpC m) 62 fun b1 w1 S1 => ?_
 refine J.lb 5 [] [] [] S1 0 rfl 7 (.agg (mpA m)) ?_
 refine J.c0 0 [] [] [] S1 8 hb99 (valid_any m _ (mpQ_sep hm S1)) fun w2 S2 => ?_
 refine J.bn 2 [] [] [] 9 (validM m) (fun fk1 => ?_) fun fk1 => ?_
 ·skip
  have hv := fk1
  refine J.lb 4 [false] [] [] S2 0 rfl 10 (.agg (mpA m)) ?_
  refine J.c0 2 [] [] [] S2 13 hb108 (at_any m x y _ (mpQ_sep hm S2) hv) fun w3 S3 => ?_
  refine J.e 2 [iv (valueF m x y)] Tryz.func64 (hR _ _ ?_)
  exact ⟨congrArg (Value.int .i64) (by unfold atF; rw [fk1]; rfl), S3.nil⟩
 refine J.e 5 [iv 0] Tryz.func64 (hR _ _ ?_)
 exact ⟨congrArg (Value.int .i64) (by unfold atF; rw [fk1]; rfl), S2.nil⟩

end Go.Proofs.YtaoolgcddapegaaGreatDoor

namespace Go.Proofs.YtaoolgcddapegaaGreatDoor
open Go.Eng Go.RowKit
set_option linter.unusedSimpArgs false
set_option linter.unusedVariables false
set_option maxRecDepth 20000
set_option maxHeartbeats 20000000
/-- what is known of a valid map -/
structure Vm (m : Mp) : Prop where
  ax : axisB m.gX_l = true
  ay : axisB m.gY_l = true
  z : ∀ i, i < m.gX_n → ∀ j, j < m.gY_n → -1073741824 ≤ zF m i j ∧ zF m i j ≤ 1073741824
end Go.Proofs.YtaoolgcddapegaaGreatDoor

namespace Go.Proofs.YtaoolgcddapegaaGreatDoor
open Go.Eng Go.RowKit
set_option linter.unusedSimpArgs false
set_option linter.unusedVariables false
set_option maxRecDepth 20000
set_option maxHeartbeats 20000000
theorem hb61 : HasBody Tryz.prog 61 := fun _ _ => by kernel_rfl

theorem clone_any (la : Option Addr) (len cap : Nat) (l : List Int) (w : World) (hI : Ints w la len l) (hlen : len ≤ 9223372036854775807) (hsm : len ≤ 4096) : Ret Tryz.prog 61 #[.slice la len cap] w (fun v w' => ∃ a cap, v = .slice a (l).length cap ∧ Sep w [rowOf encI a cap 3 1 (l)] w') := by
 refine Ret.st (N := 8) Tryz.func61 fun R hR S0 => ?_
 have hll := hI.len_eq
 refine J.r 8 [] [(3, .slice la len cap)] [] ?_
 refine J.ok (OK.nilS 4 true 26 la (by kernel_rfl) (by kernel_rfl) la.isNone (by simp)) ?_
 refine J.b 1 [] [] [] 4 la.isNone (fun fk1 => ?_) fun fk1 => ?_
 ·skip
  refine J.e 5 [.slice none 0 0] Tryz.func61 (hR _ _ ?_)
  have e_ : l = [] := by cases la with | none => exact hI.nil | some p => simp at fk1
  subst e_
  exact ⟨none, 0, rfl, S0.nilRow 3 1⟩
 refine J.r 4 [false] [] [] ?_
 refine J.newSlice S0 5 0 [] 3 (by kernel_rfl) ?_
 intro b1 w1 S1
 refine J.r 1 [] [(6, .slice la len cap)] [] ?_
 have S2 : Sep w [rowOf encI (some ⟨b1, 0, none⟩) 0 3 1 ([])] w1 := box_row encI S1 0 [] 1 rfl rfl rfl (by simp [maxLen]) (.inr trivial)
 have hz1 := hI.sep S2
 have := hz1.len_eq
 refine J.appendN encI S2 0 ([]) l len (by first | omega | (simp; omega)) 7 26 (iv 0) 8 la cap rfl (by kernel_rfl) (by kernel_rfl) (by kernel_rfl) (by kernel_rfl) (by decide) (hI.sep S2).enc (fun h_ => Ones.nil (h_ ▸ hz1)) (fun _ => rfl) (fun _ => rfl) (⟨by first | omega | (simp; omega), by first | omega | (simp; omega)⟩) ?_
 intro ra1 rc1 w2 S3
 replace S3 : Sep w [rowOf encI ra1 rc1 3 1 l] w2 := S3
 refine J.e 2 [.slice ra1 l.length rc1] Tryz.func61 (hR _ _ ?_)
 exact ⟨_, _, rfl, S3.pick 0 rfl⟩

end Go.Proofs.YtaoolgcddapegaaGreatDoor

namespace Go.Proofs.YtaoolgcddapegaaGreatDoor
noncomputable section
open Go.Eng Go.RowKit
set_option linter.unusedSimpArgs false
set_option linter.unusedVariables false
set_option maxRecDepth 20000
set_option maxHeartbeats 20000000
structure Crv where
  gX_a : Option Addr
  gX_n : Nat
  gX_c : Nat
  gX_l : List Int
  gY_a : Option Addr
  gY_n : Nat
  gY_c : Nat
  gY_l : List Int
def crvE (x : Crv) : List Value := [.slice x.gX_a x.gX_n x.gX_c, .slice x.gY_a x.gY_n x.gY_c]
def crvQ (w : World) (x : Crv) : Prop := (x.gX_n ≤ x.gX_c ∧ x.gX_c ≤ 9223372036854775807) ∧ Ones (Value.int .i64) w x.gX_a x.gX_n x.gX_l ∧ (∀ y ∈ x.gX_l, (fun n => (-9223372036854775808) ≤ n ∧ n ≤ 9223372036854775807) y) ∧ (x.gY_n ≤ x.gY_c ∧ x.gY_c ≤ 9223372036854775807) ∧ Ones (Value.int .i64) w x.gY_a x.gY_n x.gY_l ∧ (∀ y ∈ x.gY_l, (fun n => (-9223372036854775808) ≤ n ∧ n ≤ 9223372036854775807) y) ∧ True
theorem crvQ_sep {w0 w : World} {L : List Eng.Claim} {x : Crv} (h : crvQ w0 x) (S : Sep w0 L w) : crvQ w x := by
  obtain ⟨hgX1, hgX2, hgX3, hgY1, hgY2, hgY3, _⟩ := h
  exact ⟨hgX1, hgX2.sep S, hgX3, hgY1, hgY2.sep S, hgY3, trivial⟩
abbrev crvC (x : Crv) : List Value := [.slice x.gX_a x.gX_n x.gX_c, .slice x.gY_a x.gY_n x.gY_c]
abbrev crvA (x : Crv) : Array Value := #[.slice x.gX_a x.gX_n x.gX_c, .slice x.gY_a x.gY_n x.gY_c]
theorem axis_adj {l : List Int} (h1 : 2 ≤ l.length) (h2 : l.length ≤ 32) (h3 : l.all elB = true) (h : ∀ j, j + 1 < l.length → l.getD j 0 < l.getD (j + 1) 0) : axisB l = true := by
  refine axis_yes h1 h2 fun j hj => ?_
  unfold nodeB
  rw [(all_getD 0).1 h3 j hj, Bool.true_and, Bool.or_eq_true]
  cases j with
  | zero => left; rfl
  | succ j => right; exact decide_eq_true (h j hj)
theorem axis_far {l : List Int} (h : l.all elB = false) : axisB l = false := by
  cases hx : axisB l with
  | false => rfl
  | true =>
    have : l.all elB = true := (all_getD 0).2 fun j hj => elB_iff.2 ((axis_facts hx).2.1 j hj)
    rw [this] at h; cases h
theorem axis_down {l : List Int} {i : Int} (h0 : 0 ≤ i) (hi : i + 1 < (l.length : Int)) (h : l.getD i.toNat 0 ≥ l.getD (i + 1).toNat 0) : axisB l = false :=
  axis_bad (i := i + 1) (by omega) hi (node_no (by omega) (.inr ⟨by omega, by rw [show i + 1 - 1 = i by omega]; exact h⟩))
def validV (c : Crv) : Bool := c.gX_n == c.gY_n && axisB c.gX_l && c.gY_l.all elB
theorem validV_facts {c : Crv} (h : validV c = true) : c.gX_n = c.gY_n ∧ axisB c.gX_l = true ∧ ∀ j, j < c.gY_l.length → -1073741824 ≤ c.gY_l.getD j 0 ∧ c.gY_l.getD j 0 ≤ 1073741824 := by
  simp only [validV, Bool.and_eq_true, beq_iff_eq] at h
  exact ⟨h.1.1, h.1.2, fun j hj => elB_iff.1 ((all_getD 0).1 h.2 j hj)⟩
theorem validV_no {c : Crv} (h : c.gX_n ≠ c.gY_n ∨ axisB c.gX_l = false ∨ c.gY_l.all elB = false) : validV c = false := by
  unfold validV
  rcases h with h | h | h
  · rw [beq_eq_false_iff_ne.2 h]; rfl
  · rw [h]; simp
  · rw [h]; simp
def valueV (c : Crv) (x : Int) : Int := curveF c.gX_l c.gY_l x
def atV (c : Crv) (x : Int) : Int := if validV c then valueV c x else 0
theorem seg_found {l : List Int} {x r : Int} (ax : axisB l = true) (hx : l.getD 0 0 ≤ x ∧ x < l.getD (l.length - 1) 0) (h0 : 0 ≤ r ∧ r ≤ (l.length : Int)) (h1 : r = 0 ∨ decide (l.getD (r - 1).toNat 0 > x) = false) (h2 : r = (l.length : Int) ∨ decide (l.getD r.toNat 0 > x) = true) :
    (0 ≤ r - 1 ∧ r - 1 + 1 < (l.length : Int)) ∧ l.getD (r - 1).toNat 0 ≤ x ∧ x < l.getD (r - 1 + 1).toNat 0 := by
  have hl := (axis_facts ax).1
  have hr0 : r ≠ 0 := by
    intro e; subst e
    rcases h2 with h | h
    · omega
    · have := of_decide_eq_true h; simp only [Int.toNat_zero] at this; omega
  have h1' : l.getD (r - 1).toNat 0 ≤ x := by
    rcases h1 with h | h
    · exact absurd h hr0
    · rw [decide_eq_false_iff_not] at h; omega
  have hrn : r ≠ (l.length : Int) := by
    intro e
    rw [e, show ((l.length : Int) - 1).toNat = l.length - 1 by omega] at h1'; omega
  have h2' : l.getD r.toNat 0 > x := by
    rcases h2 with h | h
    · exact absurd h hrn
    · exact of_decide_eq_true h
  rw [show r - 1 + 1 = r by omega]
  exact ⟨by omega, h1', h2'⟩
theorem curve_mid {xs ys : List Int} {x i : Int} (ax : axisB xs = true) (hx : ¬ x ≤ xs.getD 0 0 ∧ ¬ xs.getD (xs.length - 1) 0 ≤ x) (h0 : 0 ≤ i ∧ i + 1 < (xs.length : Int)) (h1 : xs.getD i.toNat 0 ≤ x) (h2 : x < xs.getD (i + 1).toNat 0) :
    curveF xs ys x = ys.getD i.toNat 0 + (x - xs.getD i.toNat 0) * (ys.getD (i + 1).toNat 0 - ys.getD i.toNat 0) / (xs.getD (i + 1).toNat 0 - xs.getD i.toNat 0) := by
  have e : (i + 1).toNat = i.toNat + 1 := by omega
  rw [e] at h2 ⊢
  exact curve_seg ax (by omega) h1 (by omega) (.inl h2) (by omega)

theorem hb146 : HasBody Tryz.prog 146 := fun _ _ => by kernel_rfl

theorem cfar_any (n : Int) (w : World) : Ret Tryz.prog 146 #[iv n] w (fun v w' => v = .bool (!elB n) ∧ Sep w [] w') := by
 refine Ret.st (N := 9) Tryz.func146 fun R hR S0 => ?_
 refine J.c 9 [] [] [] 5 (n < (-1073741824)) (fun fk1 => ?_) fun fk1 => ?_
 ·skip
  refine J.e 5 [.bool true] Tryz.func146 (hR _ _ ?_)
  exact ⟨congrArg Value.bool (by rw [Bool.eq_iff_iff]; simp [elB]; omega), S0.nil⟩
 refine J.e 5 [.bool (decide (n > 1073741824))] Tryz.func146 (hR _ _ ?_)
 exact ⟨congrArg Value.bool (by rw [Bool.eq_iff_iff]; simp [elB]; omega), S0.nil⟩

theorem hb145 : HasBody Tryz.prog 145 := fun _ _ => by kernel_rfl
def K145_0 := adv 32 [false] (bodyOf Tryz.f145)
theorem caxis_any (la : Option Addr) (len cap : Nat) (l : List Int) (w : World) (hI : Ints w la len l) (hlen : len ≤ 9223372036854775807) : Ret Tryz.prog 145 #[.slice la len cap] w (fun v w' => v = .bool (axisB l) ∧ Sep w [] w') := by
 refine Ret.st (N := 33) Tryz.func145 fun R hR S0 => ?_
 have hll := hI.len_eq
 refine J.c 11 [] [] [] 7 ((len : Int) < 2) (fun fk1 => ?_) fun fk1 => ?_
 ·skip
  refine J.e 14 [.bool false] Tryz.func145 (hR _ _ ?_)
  exact ⟨congrArg Value.bool (axis_no (by omega)).symm, S0.nil⟩
 refine J.c 5 [] [] [] 12 ((len : Int) > 32) (fun fk2 => ?_) fun fk2 => ?_
 ·skip
  refine J.e 9 [.bool false] Tryz.func145 (hR _ _ ?_)
  exact ⟨congrArg Value.bool (axis_no (by omega)).symm, S0.nil⟩
 refine J.r 1 [] [(13, .slice la len cap)] [] ?_
 refine J.callF 14 103 #[.slice la len cap, .func (.func 146) #[] #[]] hb103 (by kernel_rfl) (containsI0 la len cap l 146  (fun x => !elB x) _ (hI.sep S0) (by first | omega | (simp; omega)) hb146 (fun i_ w_ hi_ S_ => cfar_any _ w_)) ?_
 rintro _ w1 ⟨rfl, T1⟩
 have S1 : Sep w [] w1 := S0.trans T1
 refine J.b 2 [] [] [] 15 (List.any l (fun x => !elB x)) (fun fk3 => ?_) fun fk3 => ?_
 ·skip
  refine J.e 5 [.bool false] Tryz.func145 (hR _ _ ?_)
  exact ⟨congrArg Value.bool (axis_far (by have h_ := fk3; rw [any_not_all] at h_; simpa using h_)).symm, S1.nil⟩
 refine J.wi 8 [false] [] [] 18 ((len : Int) - 1) ?_
 have L145_1 : ∀ (mm_ : Nat) (i : Int) (w2 : World), (0 ≤ i) → (i + 1 ≤ (len : Int)) → (∀ j, j < (i).toNat → l.getD j 0 < l.getD (j + 1) 0) → Sep w [] w2 → ((len : Int) - i).toNat = mm_ → J Tryz.prog 145 33 R K145_0 [(19, iv i), (18, iv ((len : Int) - 1)), (0, .slice la len cap)] w2 := by
  intro mm1
  induction mm1 using Nat.strongRecOn with
  | _ mm1 ih1 =>
  intro i w2 h0 h1 hq S2 hm1
  refine J.c 5 [] [] [] 20 (i < ((len : Int) - 1)) (fun fk4 => ?_) fun fk4 => ?_
  ·skip
   refine J.r 10 [true] [(3, iv i)] [] ?_
   obtain ⟨p1, hp1, hc1⟩ := hI.at 0 (i).toNat (by omega)
   obtain ⟨p2, hp2, hc2⟩ := hI.at 0 (i + 1).toNat (by omega)
   refine J.drawStill S2 10 Tryz.mixed (by kernel_rfl) (by kernel_rfl) (by kernel_rfl) ?_
   intro w3 S3
   refine SL.r 22 (.slice la len cap) ?_
   refine SL.r 23 (iv i) ?_
   refine SL.ok (by decide) (OK.index 24 26 1 la p1 len (i).toNat i (p1.add (i).toNat) (by kernel_rfl) (by kernel_rfl) hp1 (by omega) (by omega) (by rw [Nat.mul_one])) ?_
   refine SL.ok (by decide) (OK.ldCell 25 3 (p1.add (i).toNat) (iv (l.getD (i).toNat 0)) (by kernel_rfl) (by kernel_rfl) (S3.cell hc1)) ?_
   refine SL.r 26 (.slice la len cap) ?_
   refine SL.r 27 (iv i) ?_
   refine SL.r 28 (iv (IntKind.wrap .i64 (i + 1))) ?_
   refine SL.head (iv (i + 1)) (congrArg (Value.int .i64) (IntWalk.i64_in _ (by omega))) ?_
   refine SL.ok (by decide) (OK.index 29 26 1 la p2 len (i + 1).toNat (i + 1) (p2.add (i + 1).toNat) (by kernel_rfl) (by kernel_rfl) hp2 (by omega) (by omega) (by rw [Nat.mul_one])) ?_
   refine SL.ok (by decide) (OK.ldCell 30 3 (p2.add (i + 1).toNat) (iv (l.getD (i + 1).toNat 0)) (by kernel_rfl) (by kernel_rfl) (S3.cell hc2)) ?_
   refine SL.r 31 (.bool (decide ((l.getD (i).toNat 0) ≥ (l.getD (i + 1).toNat 0)))) ?_
   refine SL.done ?_
   refine TL.done (by kernel_rfl) ?_
   refine J.c 0 [] [] [] 31 ((l.getD (i).toNat 0) ≥ (l.getD (i + 1).toNat 0)) (fun fk5 => ?_) fun fk5 => ?_
   ·skip
    refine J.e 5 [.bool false] Tryz.func145 (hR _ _ ?_)
    exact ⟨congrArg Value.bool (axis_down h0 (by omega) (by omega)).symm, S3.nil⟩
   refine J.wi 5 [false] [] [] 32 (i + 1) ?_
   exact J.t 3 (ih1 _ (show ((len : Int) - (i + 1)).toNat < mm1 from by omega) (i + 1) w3 (by omega) (by omega) (all_step (q := fun j => l.getD j 0 < l.getD (j + 1) 0) h0 hq (by rw [show i.toNat + 1 = (i + 1).toNat by omega]; omega)) S3 rfl)
  refine J.e 6 [.bool true] Tryz.func145 (hR _ _ ?_)
  exact ⟨congrArg Value.bool (axis_adj (by omega) (by omega) (by have h_ := fk3; rw [any_not_all] at h_; simpa using h_) fun j hj => hq j (by omega)).symm, S2.nil⟩
 exact J.t 4 (L145_1 _ 0 w1 (by omega) (by omega) (by intro j hj; simp at hj) S1 rfl)

theorem hb97 : HasBody Tryz.prog 97 := fun _ _ => by kernel_rfl

theorem cvalid_any (c : Crv) (w : World) (hc : crvQ w c) : Ret Tryz.prog 97 #[.agg (crvA c)] w (fun v w' => v = .bool (validV c) ∧ Sep w [] w') := by
 refine Ret.st (N := 21) Tryz.func97 fun R hR S0 => ?_
 obtain ⟨q1, q2, q3, q4, q5, q6, _⟩ := id hc
 have ql1 := q2.len_eq
 have ql2 := q5.len_eq
 refine J.nw 2 [] [] [] S0 1 (crvC c) 66 fun b1 w1 S1 => ?_
 refine J.lb 5 [] [] [] S1 0 rfl 4 (.slice c.gX_a c.gX_n c.gX_c) ?_
 refine J.lb 2 [] [(5, iv (c.gX_n : Int))] [] S1 0 rfl 7 (.slice c.gY_a c.gY_n c.gY_c) ?_
 refine J.c 3 [] [] [] 10 ((c.gX_n : Int) = (c.gY_n : Int)) (fun fk1 => ?_) fun fk1 => ?_
 ·skip
  refine J.lb 1 [] [] [] S1 0 rfl 12 (.slice c.gX_a c.gX_n c.gX_c) ?_
  refine J.c0 0 [] [] [] S1 13 hb145 (caxis_any c.gX_a c.gX_n c.gX_c c.gX_l _ (q2.sep S1) (by first | omega | (simp; omega))) fun w2 S2 => ?_
  refine J.b 2 [] [] [] 15 (axisB c.gX_l) (fun fk2 => ?_) fun fk2 => ?_
  ·skip
   refine J.lb 1 [] [] [] S2 0 rfl 17 (.slice c.gY_a c.gY_n c.gY_c) ?_
   refine J.callF 18 103 #[.slice c.gY_a c.gY_n c.gY_c, .func (.func 146) #[] #[]] hb103 (by kernel_rfl) (containsI0 c.gY_a c.gY_n c.gY_c c.gY_l 146  (fun x => !elB x) _ (q5.sep S2) (by first | omega | (simp; omega)) hb146 (fun i_ w_ hi_ S_ => cfar_any _ w_)) ?_
   rintro _ w3 ⟨rfl, T1⟩
   have S3 : Sep w [box b1 (crvC c) 66] w3 := S2.trans T1
   refine J.e 4 [.bool (!(List.any c.gY_l (fun x => !elB x)))] Tryz.func97 (hR _ _ ?_)
   exact ⟨congrArg Value.bool (by unfold validV; rw [fk2, show c.gX_n = c.gY_n by omega, any_not_all]; simp), S3.nil⟩
  refine J.e 7 [.bool false] Tryz.func97 (hR _ _ ?_)
  exact ⟨congrArg Value.bool (validV_no (by first | exact .inr (.inl fk2) | exact .inl (by omega))).symm, S2.nil⟩
 refine J.e 12 [.bool false] Tryz.func97 (hR _ _ ?_)
 exact ⟨congrArg Value.bool (validV_no (by first | exact .inr (.inl rfl) | exact .inl (by omega))).symm, S1.nil⟩

theorem hb189 : HasBody Tryz.prog 189 := fun _ _ => by kernel_rfl

theorem cseg1_any (c : Crv) (x i : Int) (bx1 bx2 : Nat) (w : World) (hc : crvQ w c) (hi : 0 ≤ i ∧ i < (c.gX_n : Int)) (hb1 : (box bx1 (crvC c) 66).holds w) (hb2 : (box bx2 [iv x] 3).holds w) : Ret Tryz.prog 189 #[iv i, pv bx1, pv bx2] w (fun v w' => v = .bool (decide (c.gX_l.getD i.toNat 0 > x)) ∧ Sep w [] w') := by
 refine Ret.st (N := 12) Tryz.func189 fun R hR S0 => ?_
 obtain ⟨q1, q2, q3, q4, q5, q6, _⟩ := id hc
 have ql1 := q2.len_eq
 have ql2 := q5.len_eq
 refine J.r 5 [] [] [] ?_
 obtain ⟨p1, hp1, hc1⟩ := q2.at 0 (i).toNat (by omega)
 have hel1 := getD_Q q3 0 (n := (i).toNat) (by have := q2.len_eq; omega)
 refine J.drawStill S0 8 Tryz.mixed (by kernel_rfl) (by kernel_rfl) (by kernel_rfl) ?_
 intro w1 S1
 refine SL.r 5 (pv bx1) ?_
 refine SL.ok (by decide) (OK.ldRo S1 hb1 6 26 0 (.slice c.gX_a c.gX_n c.gX_c) (by kernel_rfl) (by kernel_rfl)) ?_
 refine SL.r 7 (iv i) ?_
 refine SL.ok (by decide) (OK.index 8 26 1 c.gX_a p1 c.gX_n (i).toNat i (p1.add (i).toNat) (by kernel_rfl) (by kernel_rfl) hp1 (by omega) (by omega) (by rw [Nat.mul_one])) ?_
 refine SL.ok (by decide) (OK.ldCell 9 3 (p1.add (i).toNat) (iv (c.gX_l.getD (i).toNat 0)) (by kernel_rfl) (by kernel_rfl) (S1.cell hc1)) ?_
 refine SL.ok (by decide) (OK.ldRo S1 hb2 10 3 0 (iv x) (by kernel_rfl) (by kernel_rfl)) ?_
 refine SL.r 11 (.bool (decide ((c.gX_l.getD (i).toNat 0) > x))) ?_
 refine SL.r 4 (.bool (decide ((c.gX_l.getD (i).toNat 0) > x))) ?_
 refine SL.done ?_
 refine TL.done (by kernel_rfl) ?_
 refine J.e 0 [.bool (decide ((c.gX_l.getD (i).toNat 0) > x))] Tryz.func189 (hR _ _ ?_)
 exact ⟨rfl, S1.nil⟩

theorem hb154 : HasBody Tryz.prog 154 := fun _ _ => by kernel_rfl

theorem csegment_any (c : Crv) (x : Int) (w : World) (hc : crvQ w c) (hv : validV c = true) (hxx : c.gX_l.getD 0 0 ≤ x ∧ x < c.gX_l.getD (c.gX_l.length - 1) 0) : Ret Tryz.prog 154 #[.agg (crvA c), iv x] w (fun v w' => ∃ i, v = iv i ∧ ((0 ≤ i ∧ i + 1 < (c.gX_l.length : Int)) ∧ c.gX_l.getD i.toNat 0 ≤ x ∧ x < c.gX_l.getD (i + 1).toNat 0) ∧ Sep w [] w') := by
 refine Ret.st (N := 11) Tryz.func154 fun R hR S0 => ?_
 obtain ⟨q1, q2, q3, q4, q5, q6, _⟩ := id hc
 have ql1 := q2.len_eq
 have ql2 := q5.len_eq
 obtain ⟨hv1, hv2, hv3⟩ := validV_facts hv
 obtain ⟨hx1, hx2, hx3⟩ := axis_facts hv2
 have hX : c.gX_l.length = c.gX_n := by omega
 have hY : c.gY_l.length = c.gX_n := by omega
 have hxm := axis_mono hv2 (show 0 < ((c.gX_n : Int) - 1).toNat by omega) (by omega)
 have hx0 := hx2 0 (by omega)
 have hxl := hx2 ((c.gX_n : Int) - 1).toNat (by omega)
 refine J.nw 2 [] [] [] S0 2 (crvC c) 66 fun b1 w1 S1 => ?_
 refine J.nw 0 [] [] [] S1 3 [iv x] 3 fun b2 w2 S2 => ?_
 refine J.lb 5 [] [] [] S2 1 rfl 6 (.slice c.gX_a c.gX_n c.gX_c) ?_
 refine J.r 2 [] [(8, .func (.func 189) #[] #[pv b1, pv b2]), (7, iv (c.gX_n : Int))] [] ?_
 refine J.callF 9 188 #[iv (c.gX_n : Int), .func (.func 189) #[] #[pv b1, pv b2]] hb188 (by kernel_rfl) (search2 (c.gX_n : Int) 189 (pv b1) (pv b2) (fun i => decide (c.gX_l.getD i.toNat 0 > x)) _ (by omega) hb189 (fun i_ w_ h0_ h1_ S_ => cseg1_any c x i_ b1 b2 w_ (crvQ_sep (crvQ_sep hc S2) S_) ⟨h0_, by omega⟩ (box_keep (S2.nth 1 rfl) S_) (box_keep (S2.nth 0 rfl) S_))) ?_
 rintro _ w3 ⟨r1, rfl, hr11, hr12, hr13, T1⟩
 have S3 : Sep w [box b2 [iv x] 3, box b1 (crvC c) 66] w3 := S2.trans T1
 refine J.wi 1 [] [] [] 10 (r1 - 1) ?_
 refine J.e 2 [iv (r1 - 1)] Tryz.func154 (hR _ _ ?_)
 have hsg := seg_found (r := r1) hv2 hxx (by omega) hr12 (by rw [hX]; exact hr13)
 exact ⟨_, rfl, hsg, S3.nil⟩

theorem hb107 : HasBody Tryz.prog 107 := fun _ _ => by kernel_rfl

theorem cvalue_any (c : Crv) (x : Int) (w : World) (hc : crvQ w c) (hv : validV c = true) : Ret Tryz.prog 107 #[.agg (crvA c), iv x] w (fun v w' => v = iv (valueV c x) ∧ Sep w [] w') := by
 refine Ret.st (N := 78) Tryz.func107 fun R hR S0 => ?_
 obtain ⟨q1, q2, q3, q4, q5, q6, _⟩ := id hc
 have ql1 := q2.len_eq
 have ql2 := q5.len_eq
 obtain ⟨hv1, hv2, hv3⟩ := validV_facts hv
 obtain ⟨hx1, hx2, hx3⟩ := axis_facts hv2
 have hX : c.gX_l.length = c.gX_n := by omega
 have hY : c.gY_l.length = c.gX_n := by omega
 have hxm := axis_mono hv2 (show 0 < ((c.gX_n : Int) - 1).toNat by omega) (by omega)
 have hx0 := hx2 0 (by omega)
 have hxl := hx2 ((c.gX_n : Int) - 1).toNat (by omega)
 refine J.nw 2 [] [] [] S0 2 (crvC c) 66 fun b1 w1 S1 => ?_
 refine J.lb 5 [] [] [] S1 0 rfl 8 (.slice c.gX_a c.gX_n c.gX_c) ?_
 refine J.lb 9 [] [(11, iv x), (5, iv (c.gX_n : Int))] [] S1 0 rfl 13 (.slice c.gX_a c.gX_n c.gX_c) ?_
 obtain ⟨p1, hp1, hc1⟩ := q2.at 0 0 (by omega)
 have hel1 := getD_Q q3 0 (n := 0) (by have := q2.len_eq; omega)
 refine J.ok (OK.index 14 26 1 c.gX_a p1 c.gX_n 0 0 (p1.add 0) (by kernel_rfl) (by kernel_rfl) hp1 (by omega) (by omega) (by rw [Nat.mul_one])) ?_
 refine J.ok (OK.ldCell 15 3 (p1.add 0) (iv (c.gX_l.getD 0 0)) (by kernel_rfl) (by kernel_rfl) (S1.cell hc1)) ?_
 refine J.c 3 [] [] [] 10 (x ≤ (c.gX_l.getD 0 0)) (fun fk1 => ?_) fun fk1 => ?_
 ·skip
  refine J.lb 4 [true] [] [] S1 0 rfl 18 (.slice c.gY_a c.gY_n c.gY_c) ?_
  obtain ⟨p2, hp2, hc2⟩ := q5.at 0 0 (by omega)
  have hel2 := getD_Q q6 0 (n := 0) (by have := q5.len_eq; omega)
  refine J.ok (OK.index 19 26 1 c.gY_a p2 c.gY_n 0 0 (p2.add 0) (by kernel_rfl) (by kernel_rfl) hp2 (by omega) (by omega) (by rw [Nat.mul_one])) ?_
  refine J.ok (OK.ldCell 20 3 (p2.add 0) (iv (c.gY_l.getD 0 0)) (by kernel_rfl) (by kernel_rfl) (S1.cell hc2)) ?_
  refine J.e 2 [iv (c.gY_l.getD 0 0)] Tryz.func107 (hR _ _ ?_)
  exact ⟨congrArg (Value.int .i64) (by unfold valueV curveF; first | rw [if_pos (by omega)] | (rw [if_neg (by omega), if_pos (by rw [show c.gX_l.length - 1 = ((c.gX_n : Int) - 1).toNat by omega]; omega), show c.gX_l.length - 1 = ((c.gX_n : Int) - 1).toNat by omega])), S1.nil⟩
 refine J.lb 5 [false] [(22, iv x)] [] S1 0 rfl 24 (.slice c.gX_a c.gX_n c.gX_c) ?_
 refine J.wi 2 [] [] [] 26 ((c.gX_n : Int) - 1) ?_
 obtain ⟨p3, hp3, hc3⟩ := q2.at 0 ((c.gX_n : Int) - 1).toNat (by omega)
 have hel3 := getD_Q q3 0 (n := ((c.gX_n : Int) - 1).toNat) (by have := q2.len_eq; omega)
 refine J.ok (OK.index 27 26 1 c.gX_a p3 c.gX_n ((c.gX_n : Int) - 1).toNat ((c.gX_n : Int) - 1) (p3.add ((c.gX_n : Int) - 1).toNat) (by kernel_rfl) (by kernel_rfl) hp3 (by omega) (by omega) (by rw [Nat.mul_one])) ?_
 refine J.ok (OK.ldCell 28 3 (p3.add ((c.gX_n : Int) - 1).toNat) (iv (c.gX_l.getD ((c.gX_n : Int) - 1).toNat 0)) (by kernel_rfl) (by kernel_rfl) (S1.cell hc3)) ?_
 refine J.c 3 [] [] [] 21 (x ≥ (c.gX_l.getD ((c.gX_n : Int) - 1).toNat 0)) (fun fk2 => ?_) fun fk2 => ?_
 ·skip
  refine J.lb 4 [true] [] [] S1 0 rfl 31 (.slice c.gY_a c.gY_n c.gY_c) ?_
  refine J.wi 2 [] [] [] 33 ((c.gX_n : Int) - 1) ?_
  obtain ⟨p4, hp4, hc4⟩ := q5.at 0 ((c.gX_n : Int) - 1).toNat (by omega)
  have hel4 := getD_Q q6 0 (n := ((c.gX_n : Int) - 1).toNat) (by have := q5.len_eq; omega)
  refine J.ok (OK.index 34 26 1 c.gY_a p4 c.gY_n ((c.gX_n : Int) - 1).toNat ((c.gX_n : Int) - 1) (p4.add ((c.gX_n : Int) - 1).toNat) (by kernel_rfl) (by kernel_rfl) hp4 (by omega) (by omega) (by rw [Nat.mul_one])) ?_
  refine J.ok (OK.ldCell 35 3 (p4.add ((c.gX_n : Int) - 1).toNat) (iv (c.gY_l.getD ((c.gX_n : Int) - 1).toNat 0)) (by kernel_rfl) (by kernel_rfl) (S1.cell hc4)) ?_
  refine J.e 2 [iv (c.gY_l.getD ((c.gX_n : Int) - 1).toNat 0)] Tryz.func107 (hR _ _ ?_)
  exact ⟨congrArg (Value.int .i64) (by unfold valueV curveF; first | rw [if_pos (by omega)] | (rw [if_neg (by omega), if_pos (by rw [show c.gX_l.length - 1 = ((c.gX_n : Int) - 1).toNat by omega]; omega), show c.gX_l.length - 1 = ((c.gX_n : Int) - 1).toNat by omega])), S1.nil⟩
 refine J.lb 5 [false] [] [] S1 0 rfl 36 (.agg (crvA c)) ?_
 refine J.r 1 [] [(37, iv x)] [] ?_
 refine J.callF 38 154 #[.agg (crvA c), iv x] hb154 (by kernel_rfl) (csegment_any c x _ (crvQ_sep hc S1) hv (by rw [show c.gX_l.length - 1 = ((c.gX_n : Int) - 1).toNat by omega]; omega)) ?_
 rintro _ w2 ⟨i, rfl, ⟨hsa, hsb, hsc⟩, T1⟩
 have S2 : Sep w [box b1 (crvC c) 66] w2 := S1.trans T1
 have hA3 := axis_mono hv2 (show (i).toNat < (i + 1).toNat by omega) (by omega)
 have hA1 := hx2 (i).toNat (by omega)
 have hA2 := hx2 (i + 1).toNat (by omega)
 have hB1 := hv3 (i).toNat (by omega)
 have hB2 := hv3 (i + 1).toNat (by omega)
 have hpb := prod_bd (t := x - c.gX_l.getD (i).toNat 0) (k := c.gY_l.getD (i + 1).toNat 0 - c.gY_l.getD (i).toNat 0) (by omega) (by omega)
 have hbw := btw_bounds (x0 := c.gX_l.getD (i).toNat 0) (x1 := c.gX_l.getD (i + 1).toNat 0) (y0 := c.gY_l.getD (i).toNat 0) (y1 := c.gY_l.getD (i + 1).toNat 0) (x := x) (by omega) (by omega) (by omega)
 unfold btwF at hbw
 refine J.r 3 [] [(6, iv i)] [] ?_
 obtain ⟨p5, hp5, hc5⟩ := q5.at 0 (i).toNat (by omega)
 have hel5 := getD_Q q6 0 (n := (i).toNat) (by have := q5.len_eq; omega)
 obtain ⟨p6, hp6, hc6⟩ := q2.at 0 (i).toNat (by omega)
 have hel6 := getD_Q q3 0 (n := (i).toNat) (by have := q2.len_eq; omega)
 obtain ⟨p7, hp7, hc7⟩ := q5.at 0 (i + 1).toNat (by omega)
 have hel7 := getD_Q q6 0 (n := (i + 1).toNat) (by have := q5.len_eq; omega)
 obtain ⟨p8, hp8, hc8⟩ := q2.at 0 (i + 1).toNat (by omega)
 have hel8 := getD_Q q3 0 (n := (i + 1).toNat) (by have := q2.len_eq; omega)
 refine J.drawPlan (fun w_ => Sep w [box b1 (crvC c) 66] w_) [(0, true), (1, true), (2, true), (3, true), (4, true), (5, true), (6, true), (7, true), (8, true), (9, true), (10, true), (11, true), (12, true), (13, true), (14, true), (15, true), (16, true), (17, true), (18, true), (19, true), (20, true), (21, true), (22, true), (23, true), (24, true), (25, true), (26, true), (27, true), (28, true), (29, true), (30, true), (31, true), (32, true), (33, true), (34, true), (35, true), (36, true), (37, false), (38, true), (39, true)] S2 Tryz.mixed (by kernel_rfl) (planOK_of (T := [(0, some 39, 4), (1, some 40, 549755813888), (0, some 41, 64), (6, some 42, 3298534883328), (8, some 43, 4398046511104), (0, some 44, 2), (0, some 45, 4), (64, some 46, 35184372088832), (0, some 47, 64), (384, some 48, 211106232532992), (512, some 49, 281474976710656), (1056, some 50, 580542139465728), (0, some 51, 4), (4096, some 52, 2251799813685248), (0, some 53, 64), (16384, some 54, 9007199254740992), (40960, some 55, 22517998136852480), (65536, some 56, 36028797018963968), (0, some 57, 4), (262144, some 58, 144115188075855872), (0, some 59, 64), (1572864, some 60, 864691128455135232), (2097152, some 61, 1152921504606846976), (4325376, some 62, 2377900603251621888), (8390656, some 63, 4612811918334230528), (0, some 64, 4), (33554432, some 65, 18446744073709551616), (0, some 66, 64), (134217728, some 67, 73786976294838206464), (335544320, some 68, 184467440737095516160), (536870912, some 69, 295147905179352825856), (0, some 70, 4), (2147483648, some 71, 1180591620717411303424), (0, some 72, 64), (12884901888, some 73, 7083549724304467820544), (17179869184, some 74, 9444732965739290427392), (35433480192, some 75, 19479761741837286506496), (68736253952, some 76, 37788155234994016485376), (137438953488, some 77, 75557863734710416441344), (549755813887, some 4, 151115727451828646838272)]) (by kernel_rfl) (by kernel_rfl)) ?_
 intro w3 S3
 refine PB.mk S3 ?_
 refine PL.take 0 39 (.pointer (some ⟨b1, 1, none⟩)) (fun _ _ => by kernel_rfl) ?_
 refine PL.takeOK 1 (fun w_ S_ => OK.ldBox S_ 0 40 26 1 (.slice c.gY_a c.gY_n c.gY_c) (by kernel_rfl) rfl (by kernel_rfl)) rfl ?_
 refine PL.take 2 41 (iv i) (fun _ _ => by kernel_rfl) ?_
 refine PL.takeOK 3 (fun w_ S_ => OK.index 42 26 1 c.gY_a p5 c.gY_n (i).toNat i (p5.add (i).toNat) (by kernel_rfl) (by kernel_rfl) hp5 (by omega) (by omega) (by rw [Nat.mul_one])) rfl ?_
 refine PL.takeOK 4 (fun w_ S_ => OK.ldCell 43 3 (p5.add (i).toNat) (iv (c.gY_l.getD (i).toNat 0)) (by kernel_rfl) (by kernel_rfl) (S_.cell hc5)) rfl ?_
 refine PL.take 5 44 (iv x) (fun _ _ => by kernel_rfl) ?_
 refine PL.take 6 45 (pv b1) (fun _ _ => by kernel_rfl) ?_
 refine PL.takeOK 7 (fun w_ S_ => OK.ldBox S_ 0 46 26 0 (.slice c.gX_a c.gX_n c.gX_c) (by kernel_rfl) rfl (by kernel_rfl)) rfl ?_
 refine PL.take 8 47 (iv i) (fun _ _ => by kernel_rfl) ?_
 refine PL.takeOK 9 (fun w_ S_ => OK.index 48 26 1 c.gX_a p6 c.gX_n (i).toNat i (p6.add (i).toNat) (by kernel_rfl) (by kernel_rfl) hp6 (by omega) (by omega) (by rw [Nat.mul_one])) rfl ?_
 refine PL.takeOK 10 (fun w_ S_ => OK.ldCell 49 3 (p6.add (i).toNat) (iv (c.gX_l.getD (i).toNat 0)) (by kernel_rfl) (by kernel_rfl) (S_.cell hc6)) rfl ?_
 refine PL.take 11 50 (iv (IntKind.wrap .i64 (x - (c.gX_l.getD (i).toNat 0)))) (fun _ _ => by kernel_rfl) ?_
 refine PL.head (iv (x - (c.gX_l.getD (i).toNat 0))) (congrArg (Value.int .i64) (IntWalk.i64_in _ (by omega))) ?_
 refine PL.take 12 51 (.pointer (some ⟨b1, 1, none⟩)) (fun _ _ => by kernel_rfl) ?_
 refine PL.takeOK 13 (fun w_ S_ => OK.ldBox S_ 0 52 26 1 (.slice c.gY_a c.gY_n c.gY_c) (by kernel_rfl) rfl (by kernel_rfl)) rfl ?_
 refine PL.take 14 53 (iv i) (fun _ _ => by kernel_rfl) ?_
 refine PL.take 15 54 (iv (IntKind.wrap .i64 (i + 1))) (fun _ _ => by kernel_rfl) ?_
 refine PL.head (iv (i + 1)) (congrArg (Value.int .i64) (IntWalk.i64_in _ (by omega))) ?_
 refine PL.takeOK 16 (fun w_ S_ => OK.index 55 26 1 c.gY_a p7 c.gY_n (i + 1).toNat (i + 1) (p7.add (i + 1).toNat) (by kernel_rfl) (by kernel_rfl) hp7 (by omega) (by omega) (by rw [Nat.mul_one])) rfl ?_
 refine PL.takeOK 17 (fun w_ S_ => OK.ldCell 56 3 (p7.add (i + 1).toNat) (iv (c.gY_l.getD (i + 1).toNat 0)) (by kernel_rfl) (by kernel_rfl) (S_.cell hc7)) rfl ?_
 refine PL.take 18 57 (.pointer (some ⟨b1, 1, none⟩)) (fun _ _ => by kernel_rfl) ?_
 refine PL.takeOK 19 (fun w_ S_ => OK.ldBox S_ 0 58 26 1 (.slice c.gY_a c.gY_n c.gY_c) (by kernel_rfl) rfl (by kernel_rfl)) rfl ?_
 refine PL.take 20 59 (iv i) (fun _ _ => by kernel_rfl) ?_
 refine PL.takeOK 21 (fun w_ S_ => OK.index 60 26 1 c.gY_a p5 c.gY_n (i).toNat i (p5.add (i).toNat) (by kernel_rfl) (by kernel_rfl) hp5 (by omega) (by omega) (by rw [Nat.mul_one])) rfl ?_
 refine PL.takeOK 22 (fun w_ S_ => OK.ldCell 61 3 (p5.add (i).toNat) (iv (c.gY_l.getD (i).toNat 0)) (by kernel_rfl) (by kernel_rfl) (S_.cell hc5)) rfl ?_
 refine PL.take 23 62 (iv (IntKind.wrap .i64 ((c.gY_l.getD (i + 1).toNat 0) - (c.gY_l.getD (i).toNat 0)))) (fun _ _ => by kernel_rfl) ?_
 refine PL.head (iv ((c.gY_l.getD (i + 1).toNat 0) - (c.gY_l.getD (i).toNat 0))) (congrArg (Value.int .i64) (IntWalk.i64_in _ (by omega))) ?_
 refine PL.take 24 63 (iv (IntKind.wrap .i64 ((x - (c.gX_l.getD (i).toNat 0)) * ((c.gY_l.getD (i + 1).toNat 0) - (c.gY_l.getD (i).toNat 0))))) (fun _ _ => by kernel_rfl) ?_
 refine PL.head (iv ((x - (c.gX_l.getD (i).toNat 0)) * ((c.gY_l.getD (i + 1).toNat 0) - (c.gY_l.getD (i).toNat 0)))) (congrArg (Value.int .i64) (IntWalk.i64_in _ (by omega))) ?_
 refine PL.take 25 64 (pv b1) (fun _ _ => by kernel_rfl) ?_
 refine PL.takeOK 26 (fun w_ S_ => OK.ldBox S_ 0 65 26 0 (.slice c.gX_a c.gX_n c.gX_c) (by kernel_rfl) rfl (by kernel_rfl)) rfl ?_
 refine PL.take 27 66 (iv i) (fun _ _ => by kernel_rfl) ?_
 refine PL.take 28 67 (iv (IntKind.wrap .i64 (i + 1))) (fun _ _ => by kernel_rfl) ?_
 refine PL.head (iv (i + 1)) (congrArg (Value.int .i64) (IntWalk.i64_in _ (by omega))) ?_
 refine PL.takeOK 29 (fun w_ S_ => OK.index 68 26 1 c.gX_a p8 c.gX_n (i + 1).toNat (i + 1) (p8.add (i + 1).toNat) (by kernel_rfl) (by kernel_rfl) hp8 (by omega) (by omega) (by rw [Nat.mul_one])) rfl ?_
 refine PL.takeOK 30 (fun w_ S_ => OK.ldCell 69 3 (p8.add (i + 1).toNat) (iv (c.gX_l.getD (i + 1).toNat 0)) (by kernel_rfl) (by kernel_rfl) (S_.cell hc8)) rfl ?_
 refine PL.take 31 70 (pv b1) (fun _ _ => by kernel_rfl) ?_
 refine PL.takeOK 32 (fun w_ S_ => OK.ldBox S_ 0 71 26 0 (.slice c.gX_a c.gX_n c.gX_c) (by kernel_rfl) rfl (by kernel_rfl)) rfl ?_
 refine PL.take 33 72 (iv i) (fun _ _ => by kernel_rfl) ?_
 refine PL.takeOK 34 (fun w_ S_ => OK.index 73 26 1 c.gX_a p6 c.gX_n (i).toNat i (p6.add (i).toNat) (by kernel_rfl) (by kernel_rfl) hp6 (by omega) (by omega) (by rw [Nat.mul_one])) rfl ?_
 refine PL.takeOK 35 (fun w_ S_ => OK.ldCell 74 3 (p6.add (i).toNat) (iv (c.gX_l.getD (i).toNat 0)) (by kernel_rfl) (by kernel_rfl) (S_.cell hc6)) rfl ?_
 refine PL.take 36 75 (iv (IntKind.wrap .i64 ((c.gX_l.getD (i + 1).toNat 0) - (c.gX_l.getD (i).toNat 0)))) (fun _ _ => by kernel_rfl) ?_
 refine PL.head (iv ((c.gX_l.getD (i + 1).toNat 0) - (c.gX_l.getD (i).toNat 0))) (congrArg (Value.int .i64) (IntWalk.i64_in _ (by omega))) ?_
 refine PL.callF 76 155 #[iv ((x - (c.gX_l.getD (i).toNat 0)) * ((c.gY_l.getD (i + 1).toNat 0) - (c.gY_l.getD (i).toNat 0))), iv ((c.gX_l.getD (i + 1).toNat 0) - (c.gX_l.getD (i).toNat 0))] hb155 (by kernel_rfl) (floor_any ((x - (c.gX_l.getD (i).toNat 0)) * ((c.gY_l.getD (i + 1).toNat 0) - (c.gY_l.getD (i).toNat 0))) ((c.gX_l.getD (i + 1).toNat 0) - (c.gX_l.getD (i).toNat 0)) _ (by omega) (by omega)) ?_
 rintro _ w4 ⟨rfl, T2⟩
 have S4 : Sep w [box b1 (crvC c) 66] w4 := S3.trans T2
 clear T2 S3
 refine PB.head (iv (((x - (c.gX_l.getD (i).toNat 0)) * ((c.gY_l.getD (i + 1).toNat 0) - (c.gY_l.getD (i).toNat 0))) / ((c.gX_l.getD (i + 1).toNat 0) - (c.gX_l.getD (i).toNat 0)))) (congrArg (Value.int .i64) (floor_pos (by omega) (by omega))) ?_
 refine PB.mk S4 ?_
 refine PL.take 38 77 (iv (IntKind.wrap .i64 ((c.gY_l.getD (i).toNat 0) + (((x - (c.gX_l.getD (i).toNat 0)) * ((c.gY_l.getD (i + 1).toNat 0) - (c.gY_l.getD (i).toNat 0))) / ((c.gX_l.getD (i + 1).toNat 0) - (c.gX_l.getD (i).toNat 0)))))) (fun _ _ => by kernel_rfl) ?_
 refine PL.head (iv ((c.gY_l.getD (i).toNat 0) + (((x - (c.gX_l.getD (i).toNat 0)) * ((c.gY_l.getD (i + 1).toNat 0) - (c.gY_l.getD (i).toNat 0))) / ((c.gX_l.getD (i + 1).toNat 0) - (c.gX_l.getD (i).toNat 0))))) (congrArg (Value.int .i64) (IntWalk.i64_in _ (by omega))) ?_
 refine PL.take 39 4 (iv ((c.gY_l.getD (i).toNat 0) + (((x - (c.gX_l.getD (i).toNat 0)) * ((c.gY_l.getD (i + 1).toNat 0) - (c.gY_l.getD (i).toNat 0))) / ((c.gX_l.getD (i + 1).toNat 0) - (c.gX_l.getD (i).toNat 0))))) (fun _ _ => by kernel_rfl) ?_
 refine PL.done ?_
 refine J.e 0 [iv ((c.gY_l.getD (i).toNat 0) + (((x - (c.gX_l.getD (i).toNat 0)) * ((c.gY_l.getD (i + 1).toNat 0) - (c.gY_l.getD (i).toNat 0))) / ((c.gX_l.getD (i + 1).toNat 0) - (c.gX_l.getD (i).toNat 0))))] Tryz.func107 (hR _ _ ?_)
 have e := curve_mid (ys := c.gY_l) hv2 (x := x) (i := i) ⟨by omega, by rw [show c.gX_l.length - 1 = ((c.gX_n : Int) - 1).toNat by omega]; omega⟩ (by omega) hsb hsc
 exact ⟨congrArg (Value.int .i64) (by unfold valueV; rw [e]), S4.nil⟩

theorem hb63 : HasBody Tryz.prog 63 := fun _ _ => by kernel_rfl

theorem cAt_any (c : Crv) (x : Int) (w : World) (hc : crvQ w c) : Ret Tryz.prog 63 #[.agg (crvA c), iv x] w (fun v w' => v = iv (atV c x) ∧ Sep w [] w') := by
 refine Ret.st (N := 11) Tryz.func63 fun R hR S0 => ?_
 obtain ⟨q1, q2, q3, q4, q5, q6, _⟩ := id hc
 have ql1 := q2.len_eq
 have ql2 := q5.len_eq
 refine J.nw 2 [] [] [] S0 2 (crvC c) 66 fun b1 w1 S1 => ?_
 refine J.lb 5 [] [] [] S1 0 rfl 5 (.agg (crvA c)) ?_
 refine J.c0 0 [] [] [] S1 6 hb97 (cvalid_any c _ (crvQ_sep hc S1)) fun w2 S2 => ?_
 refine J.bn 2 [] [] [] 7 (validV c) (fun fk1 => ?_) fun fk1 => ?_
 ·skip
  have hv := fk1
  refine J.lb 4 [false] [] [] S2 0 rfl 8 (.agg (crvA c)) ?_
  refine J.c0 1 [] [] [] S2 10 hb107 (cvalue_any c x _ (crvQ_sep hc S2) hv) fun w3 S3 => ?_
  refine J.e 2 [iv (valueV c x)] Tryz.func63 (hR _ _ ?_)
  exact ⟨congrArg (Value.int .i64) (by unfold atV; rw [fk1]; rfl), S3.nil⟩
 refine J.e 5 [iv 0] Tryz.func63 (hR _ _ ?_)
 exact ⟨congrArg (Value.int .i64) (by unfold atV; rw [fk1]; rfl), S2.nil⟩

end
end Go.Proofs.YtaoolgcddapegaaGreatDoor

