/- Walks of functions of this seat, printed by a program over the engine. Conditions: as each theorem says. -/
import Derived.Test.YtaoolgcddapegaaGreatDoorZsX22
namespace Go.Proofs.YtaoolgcddapegaaGreatDoor
noncomputable section
open Go.Eng Go.RowKit
set_option linter.unusedSimpArgs false
set_option linter.unusedVariables false
set_option maxRecDepth 20000
set_option maxHeartbeats 20000000

theorem list_ext_getD {l m : List Int} (h : l.length = m.length) (h2 : ∀ k, k < l.length → l.getD k 0 = m.getD k 0) : l = m := by
  apply List.ext_getElem h
  intro k h3 h4
  have := h2 k h3
  simpa [List.getD, h3, h4] using this
theorem hb11 : HasBody Tryz.prog 11 := fun _ _ => by kernel_rfl
def K11_0 := adv 33 [false] (bodyOf Tryz.f11)
theorem same_any (x0 x1 x2 x3 x4 x5 x6 x7 x8 x9 x10 x11 x12 x13 x14 x15 : Int) (y0 y1 y2 y3 y4 y5 y6 y7 y8 y9 y10 y11 y12 y13 y14 y15 : Int) (la : Option Addr) (na ca : Nat) (xl : List Int) (lb : Option Addr) (nb cb : Nat) (yl : List Int) (w : World) (ha : Ints w la na xl) (hb : Ints w lb nb yl) (hla : na ≤ 9223372036854775807) : Ret Tryz.prog 11 #[.agg #[iv x0, iv x1, iv x2, iv x3, iv x4, iv x5, iv x6, iv x7, iv x8, iv x9, iv x10, iv x11, iv x12, iv x13, iv x14, iv x15, .slice la na ca], .agg #[iv y0, iv y1, iv y2, iv y3, iv y4, iv y5, iv y6, iv y7, iv y8, iv y9, iv y10, iv y11, iv y12, iv y13, iv y14, iv y15, .slice lb nb cb]] w (fun v w' => v = .bool (sameR [x0, x1, x2, x3, x4, x5, x6, x7, x8, x9, x10, x11, x12, x13, x14, x15] [y0, y1, y2, y3, y4, y5, y6, y7, y8, y9, y10, y11, y12, y13, y14, y15] xl yl) ∧ Sep w [] w') := by
 refine Ret.st (N := 38) Tryz.func11 fun R hR S0 => ?_
 have hla_ := ha.len_eq
 have hlb_ := hb.len_eq
 refine J.nw 2 [] [] [] S0 2 [iv x0, iv x1, iv x2, iv x3, iv x4, iv x5, iv x6, iv x7, iv x8, iv x9, iv x10, iv x11, iv x12, iv x13, iv x14, iv x15, .slice la na ca] 31 fun b1 w1 S1 => ?_
 refine J.nw 0 [] [] [] S1 3 [iv y0, iv y1, iv y2, iv y3, iv y4, iv y5, iv y6, iv y7, iv y8, iv y9, iv y10, iv y11, iv y12, iv y13, iv y14, iv y15, .slice lb nb cb] 31 fun b2 w2 S2 => ?_
 refine J.lb 6 [] [] [] S2 1 rfl 7 (.agg #[iv x0, iv x1, iv x2, iv x3, iv x4, iv x5, iv x6, iv x7, iv x8, iv x9, iv x10, iv x11, iv x12, iv x13, iv x14, iv x15]) ?_
 refine J.lb 1 [] [] [] S2 0 rfl 9 (.agg #[iv y0, iv y1, iv y2, iv y3, iv y4, iv y5, iv y6, iv y7, iv y8, iv y9, iv y10, iv y11, iv y12, iv y13, iv y14, iv y15]) ?_
 refine J.ok (OK.eqS 10 false 29 #[iv x0, iv x1, iv x2, iv x3, iv x4, iv x5, iv x6, iv x7, iv x8, iv x9, iv x10, iv x11, iv x12, iv x13, iv x14, iv x15] #[iv y0, iv y1, iv y2, iv y3, iv y4, iv y5, iv y6, iv y7, iv y8, iv y9, iv y10, iv y11, iv y12, iv y13, iv y14, iv y15] ((x0 == y0) && ((x1 == y1) && ((x2 == y2) && ((x3 == y3) && ((x4 == y4) && ((x5 == y5) && ((x6 == y6) && ((x7 == y7) && ((x8 == y8) && ((x9 == y9) && ((x10 == y10) && ((x11 == y11) && ((x12 == y12) && ((x13 == y13) && ((x14 == y14) && ((x15 == y15) && true)))))))))))))))) (by kernel_rfl) (by kernel_rfl) (by kernel_rfl) (!((x0 == y0) && ((x1 == y1) && ((x2 == y2) && ((x3 == y3) && ((x4 == y4) && ((x5 == y5) && ((x6 == y6) && ((x7 == y7) && ((x8 == y8) && ((x9 == y9) && ((x10 == y10) && ((x11 == y11) && ((x12 == y12) && ((x13 == y13) && ((x14 == y14) && (x15 == y15))))))))))))))))) (by simp)) ?_
 refine J.bn 1 [] [] [] 11 ((x0 == y0) && ((x1 == y1) && ((x2 == y2) && ((x3 == y3) && ((x4 == y4) && ((x5 == y5) && ((x6 == y6) && ((x7 == y7) && ((x8 == y8) && ((x9 == y9) && ((x10 == y10) && ((x11 == y11) && ((x12 == y12) && ((x13 == y13) && ((x14 == y14) && (x15 == y15)))))))))))))))) (fun fk1 => ?_) fun fk1 => ?_
 ·skip
  refine J.lb 1 [] [] [] S2 1 rfl 13 (.slice la na ca) ?_
  refine J.lb 2 [] [(14, iv (na : Int))] [] S2 0 rfl 16 (.slice lb nb cb) ?_
  refine J.cn 4 [] [] [] 19 ((na : Int) = (nb : Int)) (fun fk2 => ?_) fun fk2 => ?_
  ·skip
   have L11_1 : ∀ (mm_ : Nat) (i : Int) (w3 : World), (0 ≤ i) → (i ≤ (na : Int)) → (∀ j, j < (i).toNat → xl.getD j 0 = yl.getD j 0) → Sep w [box b2 [iv y0, iv y1, iv y2, iv y3, iv y4, iv y5, iv y6, iv y7, iv y8, iv y9, iv y10, iv y11, iv y12, iv y13, iv y14, iv y15, .slice lb nb cb] 31, box b1 [iv x0, iv x1, iv x2, iv x3, iv x4, iv x5, iv x6, iv x7, iv x8, iv x9, iv x10, iv x11, iv x12, iv x13, iv x14, iv x15, .slice la na ca] 31] w3 → ((na : Int) - i).toNat = mm_ → J Tryz.prog 11 38 R K11_0 [(5, iv i), (3, pv b2), (2, pv b1)] w3 := by
    intro mm1
    induction mm1 using Nat.strongRecOn with
    | _ mm1 ih1 =>
    intro i w3 h0 h1 hq S3 hm1
    refine J.lb 5 [] [(20, iv i)] [] S3 1 rfl 22 (.slice la na ca) ?_
    refine J.c 3 [] [] [] 24 (i < (na : Int)) (fun fk3 => ?_) fun fk3 => ?_
    ·skip
     refine J.r 5 [true] [] [] ?_
     obtain ⟨p1, hp1, hc1⟩ := ha.at 0 (i).toNat (by omega)
     obtain ⟨p2, hp2, hc2⟩ := hb.at 0 (i).toNat (by omega)
     refine J.drawStill S3 11 Tryz.mixed (by kernel_rfl) (by kernel_rfl) (by kernel_rfl) ?_
     intro w4 S4
     refine SL.r 27 (.pointer (some ⟨b1, 16, none⟩)) ?_
     refine SL.lb S4 1 rfl 28 (.slice la na ca) ?_
     refine SL.r 29 (iv i) ?_
     refine SL.ok (by decide) (OK.index 30 26 1 la p1 na (i).toNat i (p1.add (i).toNat) (by kernel_rfl) (by kernel_rfl) hp1 (by omega) (by omega) (by rw [Nat.mul_one])) ?_
     refine SL.ok (by decide) (OK.ldCell 31 3 (p1.add (i).toNat) (iv (xl.getD (i).toNat 0)) (by kernel_rfl) (by kernel_rfl) (S4.cell hc1)) ?_
     refine SL.r 32 (.pointer (some ⟨b2, 16, none⟩)) ?_
     refine SL.lb S4 0 rfl 33 (.slice lb nb cb) ?_
     refine SL.r 34 (iv i) ?_
     refine SL.ok (by decide) (OK.index 35 26 1 lb p2 nb (i).toNat i (p2.add (i).toNat) (by kernel_rfl) (by kernel_rfl) hp2 (by omega) (by omega) (by rw [Nat.mul_one])) ?_
     refine SL.ok (by decide) (OK.ldCell 36 3 (p2.add (i).toNat) (iv (yl.getD (i).toNat 0)) (by kernel_rfl) (by kernel_rfl) (S4.cell hc2)) ?_
     refine SL.r 37 (.bool ((xl.getD (i).toNat 0) != (yl.getD (i).toNat 0))) ?_
     refine SL.done ?_
     refine TL.done (by kernel_rfl) ?_
     refine J.cn 0 [] [] [] 37 ((xl.getD (i).toNat 0) = (yl.getD (i).toNat 0)) (fun fk4 => ?_) fun fk4 => ?_
     ·skip
      refine J.wi 6 [false] [] [] 26 (i + 1) ?_
      exact J.t 3 (ih1 _ (show ((na : Int) - (i + 1)).toNat < mm1 from by omega) (i + 1) w4 (by omega) (by omega) (by intro j hj; by_cases e : j = i.toNat; (subst e; exact fk4); exact hq j (by omega)) S4 rfl)
     refine J.e 5 [.bool false] Tryz.func11 (hR _ _ ?_)
     exact ⟨congrArg Value.bool (sameR_no (.inr (.inr ⟨i.toNat, fk4⟩))).symm, S4.nil⟩
    refine J.e 6 [.bool true] Tryz.func11 (hR _ _ ?_)
    have hre : ([x0, x1, x2, x3, x4, x5, x6, x7, x8, x9, x10, x11, x12, x13, x14, x15] == [y0, y1, y2, y3, y4, y5, y6, y7, y8, y9, y10, y11, y12, y13, y14, y15]) = true := by simp only [List.cons_beq_cons]; simpa using fk1
    have hle : xl = yl := list_ext_getD (by omega) (fun j hj => hq j (by omega))
    exact ⟨congrArg Value.bool (by unfold sameR; rw [hre, hle, beq_self_eq_true]; rfl), S3.nil⟩
   exact J.t 9 (L11_1 _ 0 w2 (by omega) (by omega) (by intro j hj; simp at hj) S2 rfl)
  refine J.e 5 [.bool false] Tryz.func11 (hR _ _ ?_)
  exact ⟨congrArg Value.bool (sameR_no (.inr (.inl (by omega)))).symm, S2.nil⟩
 refine J.e 14 [.bool false] Tryz.func11 (hR _ _ ?_)
 have hre : ([x0, x1, x2, x3, x4, x5, x6, x7, x8, x9, x10, x11, x12, x13, x14, x15] == [y0, y1, y2, y3, y4, y5, y6, y7, y8, y9, y10, y11, y12, y13, y14, y15]) = false := by simp only [List.cons_beq_cons]; simpa using fk1
 exact ⟨congrArg Value.bool (sameR_no (.inl hre)).symm, S2.nil⟩

end
end Go.Proofs.YtaoolgcddapegaaGreatDoor

namespace Go.Proofs.YtaoolgcddapegaaGreatDoor
open Go.Eng Go.RowKit
set_option linter.unusedSimpArgs false
set_option linter.unusedVariables false
set_option maxRecDepth 20000
set_option maxHeartbeats 20000000
theorem hb23 : HasBody Tryz.prog 23 := fun _ _ => by kernel_rfl

theorem great1_any (m : Mp) (w : World) : Ret Tryz.prog 23 #[.agg (mpA m)] w (fun v w' => v = .bool (bigM m) ∧ Sep w [] w') := by
 refine Ret.st (N := 19) Tryz.func23 fun R hR S0 => ?_
 refine J.nw 2 [] [] [] S0 1 (mpC m) 62 fun b1 w1 S1 => ?_
 refine J.lb 5 [] [] [] S1 0 rfl 4 (.slice m.gX_a m.gX_n m.gX_c) ?_
 refine J.c 3 [] [] [] 7 ((m.gX_n : Int) > 40) (fun fk1 => ?_) fun fk1 => ?_
 ·skip
  refine J.e 13 [.bool true] Tryz.func23 (hR _ _ ?_)
  exact ⟨congrArg Value.bool (by unfold bigM; first | (simp [fk1]; done) | (simp [fk1]; omega)), S1.nil⟩
 refine J.lb 1 [] [] [] S1 0 rfl 9 (.slice m.gY_a m.gY_n m.gY_c) ?_
 refine J.c 4 [] [] [] 13 ((m.gY_n : Int) > 40) (fun fk2 => ?_) fun fk2 => ?_
 ·skip
  refine J.e 7 [.bool true] Tryz.func23 (hR _ _ ?_)
  exact ⟨congrArg Value.bool (by unfold bigM; first | (simp [fk1, fk2]; done) | (simp [fk1, fk2]; omega)), S1.nil⟩
 refine J.lb 1 [] [] [] S1 0 rfl 15 (.slice m.gZ_a m.gZ_n m.gZ_c) ?_
 refine J.e 5 [.bool (decide ((m.gZ_n : Int) > 40))] Tryz.func23 (hR _ _ ?_)
 exact ⟨congrArg Value.bool (by unfold bigM; first | (simp [fk1, fk2]; done) | (simp [fk1, fk2]; omega)), S1.nil⟩

theorem hb25 : HasBody Tryz.prog 25 := fun _ _ => by kernel_rfl

theorem great2_any (c : Crv) (w : World) : Ret Tryz.prog 25 #[.agg (crvA c)] w (fun v w' => v = .bool (bigC c) ∧ Sep w [] w') := by
 refine Ret.st (N := 7) Tryz.func25 fun R hR S0 => ?_
 refine J.nw 2 [] [] [] S0 1 (crvC c) 66 fun b1 w1 S1 => ?_
 refine J.lb 5 [] [] [] S1 0 rfl 4 (.slice c.gX_a c.gX_n c.gX_c) ?_
 refine J.e 4 [.bool (decide ((c.gX_n : Int) > 100))] Tryz.func25 (hR _ _ ?_)
 exact ⟨rfl, S1.nil⟩

theorem hb8 : HasBody Tryz.prog 8 := fun _ _ => by kernel_rfl

theorem great_any (p : Prg) (w : World) (hp : prgQ w p) : Ret Tryz.prog 8 #[.agg (prgA p)] w (fun v w' => ∃ b, v = .bool b ∧ Sep w [] w') := by
 refine Ret.st (N := 69) Tryz.func8 fun R hR S0 => ?_
 obtain ⟨q1, q2, q3, q4, q5, q6, q7, q8, q9, q10, q11, q12, q13, q14, q15, q16, q17, q18, q19, q20, q21, q22, q23, q24, q25, _⟩ := id hp
 have ql1 := q2.len_eq
 have ql2 := q5.len_eq
 have ql3 := q8.len_eq
 have ql4 := q11.len_eq
 have ql5 := q15.len_eq
 have ql6 := q18.len_eq
 have ql7 := q21.len_eq
 have ql8 := q24.len_eq
 refine J.nw 2 [] [] [] S0 1 (prgC p) 28 fun b1 w1 S1 => ?_
 refine J.lb 5 [] [] [] S1 0 rfl 4 (.slice p.gCode_a p.gCode_n p.gCode_c) ?_
 refine J.c 3 [] [] [] 7 ((p.gCode_n : Int) > 120) (fun fk1 => ?_) fun fk1 => ?_
 ·skip
  refine J.e 63 [.bool true] Tryz.func8 (hR _ _ ?_)
  exact ⟨_, rfl, S1.nil⟩
 refine J.lb 1 [] [] [] S1 0 rfl 9 (.slice p.gTypes_a p.gTypes_n p.gTypes_c) ?_
 refine J.c 4 [] [] [] 13 ((p.gTypes_n : Int) > 120) (fun fk2 => ?_) fun fk2 => ?_
 ·skip
  refine J.e 57 [.bool true] Tryz.func8 (hR _ _ ?_)
  exact ⟨_, rfl, S1.nil⟩
 refine J.lb 1 [] [] [] S1 0 rfl 15 (.slice p.gCurves_a p.gCurves_n p.gCurves_c) ?_
 refine J.c 4 [] [] [] 19 ((p.gCurves_n : Int) > 120) (fun fk3 => ?_) fun fk3 => ?_
 ·skip
  refine J.e 51 [.bool true] Tryz.func8 (hR _ _ ?_)
  exact ⟨_, rfl, S1.nil⟩
 refine J.lb 1 [] [] [] S1 0 rfl 21 (.slice p.gMaps_a p.gMaps_n p.gMaps_c) ?_
 refine J.c 4 [] [] [] 25 ((p.gMaps_n : Int) > 10) (fun fk4 => ?_) fun fk4 => ?_
 ·skip
  refine J.e 45 [.bool true] Tryz.func8 (hR _ _ ?_)
  exact ⟨_, rfl, S1.nil⟩
 refine J.lb 1 [] [] [] S1 0 rfl 27 (iv p.gCells) ?_
 refine J.c 2 [] [] [] 29 (p.gCells > 120) (fun fk5 => ?_) fun fk5 => ?_
 ·skip
  refine J.lb 1 [] [] [] S1 0 rfl 31 (iv p.gCells) ?_
  refine J.c 4 [] [] [] 35 (p.gCells ≤ 1000) (fun fk6 => ?_) fun fk6 => ?_
  ·skip
   refine J.e 35 [.bool true] Tryz.func8 (hR _ _ ?_)
   exact ⟨_, rfl, S1.nil⟩
  refine J.lb 1 [] [] [] S1 0 rfl 37 (.slice p.gInputs_a p.gInputs_n p.gInputs_c) ?_
  refine J.c 4 [] [] [] 41 ((p.gInputs_n : Int) > 120) (fun fk7 => ?_) fun fk7 => ?_
  ·skip
   refine J.e 29 [.bool true] Tryz.func8 (hR _ _ ?_)
   exact ⟨_, rfl, S1.nil⟩
  refine J.lb 1 [] [] [] S1 0 rfl 43 (.slice p.gOutputs_a p.gOutputs_n p.gOutputs_c) ?_
  refine J.c 4 [] [] [] 47 ((p.gOutputs_n : Int) > 120) (fun fk8 => ?_) fun fk8 => ?_
  ·skip
   refine J.e 23 [.bool true] Tryz.func8 (hR _ _ ?_)
   exact ⟨_, rfl, S1.nil⟩
  refine J.lb 1 [] [] [] S1 0 rfl 49 (.slice p.gStates_a p.gStates_n p.gStates_c) ?_
  refine J.c 4 [] [] [] 53 ((p.gStates_n : Int) > 120) (fun fk9 => ?_) fun fk9 => ?_
  ·skip
   refine J.e 17 [.bool true] Tryz.func8 (hR _ _ ?_)
   exact ⟨_, rfl, S1.nil⟩
  refine J.lb 1 [] [] [] S1 0 rfl 55 (.slice p.gInitial_a p.gInitial_n p.gInitial_c) ?_
  refine J.c 4 [] [] [] 59 ((p.gInitial_n : Int) > 120) (fun fk10 => ?_) fun fk10 => ?_
  ·skip
   refine J.e 11 [.bool true] Tryz.func8 (hR _ _ ?_)
   exact ⟨_, rfl, S1.nil⟩
  refine J.lb 1 [] [] [] S1 0 rfl 61 (.slice p.gMaps_a p.gMaps_n p.gMaps_c) ?_
  refine J.callF 62 22 #[.slice p.gMaps_a p.gMaps_n p.gMaps_c, .func (.func 23) #[] #[]] hb22 (by kernel_rfl) (containsMP0 p.gMaps_a p.gMaps_n p.gMaps_c p.gMaps_l 23  bigM _ (q11.sep S1) (by first | omega | (simp; omega)) hb23 (fun i_ w_ hi_ S_ => great1_any _ w_)) ?_
  rintro _ w2 ⟨rfl, T1⟩
  have S2 : Sep w [box b1 (prgC p) 28] w2 := S1.trans T1
  refine J.b 2 [] [] [] 64 (List.any p.gMaps_l bigM) (fun fk11 => ?_) fun fk11 => ?_
  ·skip
   refine J.e 6 [.bool true] Tryz.func8 (hR _ _ ?_)
   exact ⟨_, rfl, S2.nil⟩
  refine J.lb 1 [] [] [] S2 0 rfl 66 (.slice p.gCurves_a p.gCurves_n p.gCurves_c) ?_
  refine J.callF 67 24 #[.slice p.gCurves_a p.gCurves_n p.gCurves_c, .func (.func 25) #[] #[]] hb24 (by kernel_rfl) (containsCV0 p.gCurves_a p.gCurves_n p.gCurves_c p.gCurves_l 25  bigC _ (q8.sep S2) (by first | omega | (simp; omega)) hb25 (fun i_ w_ hi_ S_ => great2_any _ w_)) ?_
  rintro _ w3 ⟨rfl, T2⟩
  have S3 : Sep w [box b1 (prgC p) 28] w3 := S2.trans T2
  refine J.e 3 [.bool (List.any p.gCurves_l bigC)] Tryz.func8 (hR _ _ ?_)
  exact ⟨_, rfl, S3.nil⟩
 refine J.lb 7 [] [(35, .bool false)] [] S1 0 rfl 37 (.slice p.gInputs_a p.gInputs_n p.gInputs_c) ?_
 refine J.c 4 [] [] [] 41 ((p.gInputs_n : Int) > 120) (fun fk12 => ?_) fun fk12 => ?_
 ·skip
  refine J.e 29 [.bool true] Tryz.func8 (hR _ _ ?_)
  exact ⟨_, rfl, S1.nil⟩
 refine J.lb 1 [] [] [] S1 0 rfl 43 (.slice p.gOutputs_a p.gOutputs_n p.gOutputs_c) ?_
 refine J.c 4 [] [] [] 47 ((p.gOutputs_n : Int) > 120) (fun fk13 => ?_) fun fk13 => ?_
 ·skip
  refine J.e 23 [.bool true] Tryz.func8 (hR _ _ ?_)
  exact ⟨_, rfl, S1.nil⟩
 refine J.lb 1 [] [] [] S1 0 rfl 49 (.slice p.gStates_a p.gStates_n p.gStates_c) ?_
 refine J.c 4 [] [] [] 53 ((p.gStates_n : Int) > 120) (fun fk14 => ?_) fun fk14 => ?_
 ·skip
  refine J.e 17 [.bool true] Tryz.func8 (hR _ _ ?_)
  exact ⟨_, rfl, S1.nil⟩
 refine J.lb 1 [] [] [] S1 0 rfl 55 (.slice p.gInitial_a p.gInitial_n p.gInitial_c) ?_
 refine J.c 4 [] [] [] 59 ((p.gInitial_n : Int) > 120) (fun fk15 => ?_) fun fk15 => ?_
 ·skip
  refine J.e 11 [.bool true] Tryz.func8 (hR _ _ ?_)
  exact ⟨_, rfl, S1.nil⟩
 refine J.lb 1 [] [] [] S1 0 rfl 61 (.slice p.gMaps_a p.gMaps_n p.gMaps_c) ?_
 refine J.callF 62 22 #[.slice p.gMaps_a p.gMaps_n p.gMaps_c, .func (.func 23) #[] #[]] hb22 (by kernel_rfl) (containsMP0 p.gMaps_a p.gMaps_n p.gMaps_c p.gMaps_l 23  bigM _ (q11.sep S1) (by first | omega | (simp; omega)) hb23 (fun i_ w_ hi_ S_ => great1_any _ w_)) ?_
 rintro _ w4 ⟨rfl, T3⟩
 have S4 : Sep w [box b1 (prgC p) 28] w4 := S1.trans T3
 refine J.b 2 [] [] [] 64 (List.any p.gMaps_l bigM) (fun fk16 => ?_) fun fk16 => ?_
 ·skip
  refine J.e 6 [.bool true] Tryz.func8 (hR _ _ ?_)
  exact ⟨_, rfl, S4.nil⟩
 refine J.lb 1 [] [] [] S4 0 rfl 66 (.slice p.gCurves_a p.gCurves_n p.gCurves_c) ?_
 refine J.callF 67 24 #[.slice p.gCurves_a p.gCurves_n p.gCurves_c, .func (.func 25) #[] #[]] hb24 (by kernel_rfl) (containsCV0 p.gCurves_a p.gCurves_n p.gCurves_c p.gCurves_l 25  bigC _ (q8.sep S4) (by first | omega | (simp; omega)) hb25 (fun i_ w_ hi_ S_ => great2_any _ w_)) ?_
 rintro _ w5 ⟨rfl, T4⟩
 have S5 : Sep w [box b1 (prgC p) 28] w5 := S4.trans T4
 refine J.e 3 [.bool (List.any p.gCurves_l bigC)] Tryz.func8 (hR _ _ ?_)
 exact ⟨_, rfl, S5.nil⟩

end Go.Proofs.YtaoolgcddapegaaGreatDoor

