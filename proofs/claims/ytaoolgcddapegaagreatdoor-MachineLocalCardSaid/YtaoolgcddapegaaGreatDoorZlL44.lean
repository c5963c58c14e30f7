/- Walks of functions of this seat, printed by a program over the engine. Conditions: as each theorem says. -/
import Derived.Test.YtaoolgcddapegaaGreatDoorZlW31
namespace Go.Proofs.YtaoolgcddapegaaGreatDoor
noncomputable section
open Go.Eng Go.RowKit
set_option linter.unusedSimpArgs false
set_option linter.unusedVariables false
set_option maxRecDepth 20000
set_option maxHeartbeats 20000000
def K6_0 := adv 101 [false, false, false, false, false] (bodyOf Tryz.f6)
def K6_1 := adv 17 [false] K6_0
theorem lawlocal_any (p : Prg) (rs : List Int) (la : Option Addr) (n c : Nat) (cs : List Int) (k other : Int) (w : World) (hrs : rs.length = 16) (hp : prgQ w p) (hI : Ints w la n cs) (hW : TabW w) : Ret Tryz.prog 6 #[.agg (prgA p), .agg (mxA rs [.slice la n c]), iv k, iv other] w (fun v w' => v = .bool true ∧ Sep w [] w') := by
 refine Ret.st (N := 209) Tryz.func6 fun R hR S0 => ?_
 obtain ⟨q1, q2, q3, q4, q5, q6, q7, q8, q9, q10, q11, q12, q13, q14, q15, q16, q17, q18, q19, q20, q21, q22, q23, q24, q25, _⟩ := id hp
 have ql1 := q2.len_eq
 have ql2 := q5.len_eq
 have ql3 := q8.len_eq
 have ql4 := q11.len_eq
 have ql5 := q15.len_eq
 have ql6 := q18.len_eq
 have ql7 := q21.len_eq
 have ql8 := q24.len_eq
 have hcl := hI.len_eq
 have htm := tmod_bd other
 refine J.nw 2 [] [] [] S0 4 (prgC p) 28 fun b1 w1 S1 => ?_
 refine J.new S1 5 (mxC rs [.slice la n c]) 31 (by kernel_rfl) ?_
 intro b2 w2 S2
 refine J.c0 5 [] [] [] S2 21 hb7 (awake_any  _ (tabW_sep hW S2)) fun w3 S3 => ?_
 refine J.lb 7 [false] [] [] S3 1 rfl 23 (.agg (prgA p)) ?_
 refine J.cf 0 [] [] [] 24 hb8 (great_any p _ (prgQ_sep hp S3)) ?_
 rintro _ w4 ⟨gb1, rfl, T1⟩
 have S4 : Sep w [box b2 (mxC rs [.slice la n c]) 31, box b1 (prgC p) 28] w4 := S3.trans T1
 refine J.b 1 [] [] [] 25 gb1 (fun fk1 => ?_) fun fk1 => ?_
 ·skip
  refine J.e 11 [.bool true] Tryz.func6 (hR _ _ ?_)
  exact ⟨rfl, S4.nil⟩
 refine J.r 1 [] [(26, .pointer (some ⟨b2, 16, none⟩))] [] ?_
 refine J.ok (OK.ldBox S4 0 27 26 16 (.slice la n c) (by kernel_rfl) rfl (ldV_mt (n := 16) (by kernel_rfl) (by kernel_rfl) (by first | rfl | assumption | (simp only [List.length_set, List.length_replicate]; first | done | assumption)) (by decide) rfl)) ?_
 refine J.c 4 [] [] [] 30 ((n : Int) > 120) (fun fk2 => ?_) fun fk2 => ?_
 ·skip
  refine J.e 5 [.bool true] Tryz.func6 (hR _ _ ?_)
  exact ⟨rfl, S4.nil⟩
 refine J.lb 4 [false] [] [] S4 1 rfl 32 (.agg (prgA p)) ?_
 refine J.ok (OK.ldBox S4 0 33 31 0 (.agg (mxA rs [.slice la n c])) (by kernel_rfl) rfl (ldV_ma (n := 16) (by kernel_rfl) (by kernel_rfl) (by first | rfl | assumption | (simp only [List.length_set, List.length_replicate]; first | done | assumption)))) ?_
 refine J.cf 1 [] [] [] 35 hb15 (step_any p rs la n c cs k _ (by first | assumption | rfl | (simp only [List.length_set, List.length_replicate]; assumption) | exact List.length_replicate) (prgQ_sep hp S4) (hI.sep S4) (by omega)) ?_
 rintro _ w5 ⟨ra1, rc1, rfl, T2⟩
 have S5 : Sep w [rowOf encI ra1 rc1 3 1 (stC p n rs (cs) k), box b2 (mxC rs [.slice la n c]) 31, box b1 (prgC p) 28] w5 := S4.trans T2
 have := stR_len (p := p) (n := n) (cs := cs) (k := k) (show (rs).length = 16 from (by first | assumption | rfl | (simp only [List.length_set, List.length_replicate]; assumption) | exact List.length_replicate))
 refine J.r 4 [] [(38, iv (stE p n rs k)), (37, iv (stN p n rs k)), (36, .agg (mxA (stR p n rs (cs) k) [.slice ra1 ((stC p n rs (cs) k).length) rc1]))] [] ?_
 refine J.new S5 9 (mxC (List.replicate 16 (0 : Int)) [.slice none 0 0]) 31 (by kernel_rfl) ?_
 intro b3 w6 S6
 refine J.stBox S6 0 31 0 (.agg (mxA (stR p n rs (cs) k) [.slice ra1 ((stC p n rs (cs) k).length) rc1])) (mxC (stR p n rs (cs) k) [.slice ra1 ((stC p n rs (cs) k).length) rc1]) [box b3 (mxC (stR p n rs (cs) k) [.slice ra1 ((stC p n rs (cs) k).length) rc1]) 31, rowOf encI ra1 rc1 3 1 (stC p n rs (cs) k), box b2 (mxC rs [.slice la n c]) 31, box b1 (prgC p) 28] (by kernel_rfl) rfl (by rw [mx_size (n := 16) (k := 17) (by first | rfl | assumption | (simp only [List.length_set, List.length_replicate]; first | done | assumption)) rfl]; kernel_rfl) (stV_ma (n := 16) (by first | rfl | assumption | (simp only [List.length_set, List.length_replicate]; first | done | assumption)) (by first | rfl | assumption | (simp only [List.length_set, List.length_replicate]; first | done | assumption)) rfl rfl) rfl ?_
 intro w7 S7
 refine J.cn 9 [] [] [] 40 ((stE p n rs k) = 0) (fun fk3 => ?_) fun fk3 => ?_
 ·skip
  obtain ⟨hv, hgn, hk0, hk1, hxe⟩ := st_zero fk3
  obtain ⟨e1, e2, e3⟩ := st_ok (cs := cs) fk3
  have hfi := code_at hv (j := k.toNat) (by omega)
  have hff := (fits_form hfi).1
  have hfp := formB_iff.1 hff
  have hn3 : (stC p n rs cs k).length = n := by rw [e2, exC_len]; exact hcl
  have hn4 : (stR p n rs cs k).length = 16 := by rw [e1, exR_len]; exact hrs
  have hst := fk3
  have hkR : ∀ j : Nat, ((j : Int) ≠ (p.gCode_l.getD (k).toNat ins0).gA ∨ (p.gCode_l.getD (k).toNat ins0).gOp = 3) → (stR p n rs cs k).getD j 0 = rs.getD j 0 := fun j h_ => by rw [e1]; exact exR_keep (i := (p.gCode_l.getD (k).toNat ins0)) (by omega) h_
  have hkC : ∀ j : Nat, ¬ ((p.gCode_l.getD (k).toNat ins0).gOp = 3 ∧ (j : Int) = (p.gCode_l.getD (k).toNat ins0).gK ∨ (p.gCode_l.getD (k).toNat ins0).gOp = 22 ∧ ((j : Int) = (p.gCode_l.getD (k).toNat ins0).gK / 32 ∨ (j : Int) = (p.gCode_l.getD (k).toNat ins0).gK / 32 + 1)) → (stC p n rs cs k).getD j 0 = cs.getD j 0 := fun j h_ => by rw [e2]; exact exC_keep (i := (p.gCode_l.getD (k).toNat ins0)) (by omega) h_
  refine J.c 8 [false] [] [] 43 (k < 0) (fun fk4 => ?_) fun fk4 => ?_
  ·skip
   refine J.e 21 [.bool false] Tryz.func6 (hR _ _ ?_)
   exfalso
   omega
  refine J.lb 2 [] [(44, iv k)] [] S7 3 rfl 46 (.slice p.gCode_a p.gCode_n p.gCode_c) ?_
  refine J.c 4 [] [] [] 50 (k ≥ (p.gCode_n : Int)) (fun fk5 => ?_) fun fk5 => ?_
  ·skip
   refine J.e 14 [.bool false] Tryz.func6 (hR _ _ ?_)
   exfalso
   omega
  refine J.r 1 [] [(51, .pointer (some ⟨b3, 16, none⟩))] [] ?_
  refine J.ok (OK.ldBox S7 0 52 26 16 (.slice ra1 ((stC p n rs (cs) k).length) rc1) (by kernel_rfl) rfl (ldV_mt (n := 16) (by kernel_rfl) (by kernel_rfl) (by first | rfl | assumption | (simp only [List.length_set, List.length_replicate]; first | done | assumption)) (by decide) rfl)) ?_
  refine J.r 2 [] [(54, .pointer (some ⟨b2, 16, none⟩)), (53, iv ((stC p n rs (cs) k).length : Int))] [] ?_
  refine J.ok (OK.ldBox S7 2 55 26 16 (.slice la n c) (by kernel_rfl) rfl (ldV_mt (n := 16) (by kernel_rfl) (by kernel_rfl) (by first | rfl | assumption | (simp only [List.length_set, List.length_replicate]; first | done | assumption)) (by decide) rfl)) ?_
  refine J.cn 4 [] [] [] 58 (((stC p n rs (cs) k).length : Int) = (n : Int)) (fun fk6 => ?_) fun fk6 => ?_
  ·skip
   refine J.lb 5 [false] [] [] S7 3 rfl 60 (.slice p.gCode_a p.gCode_n p.gCode_c) ?_
   refine J.r 1 [] [(61, iv k)] [] ?_
   obtain ⟨p1, hp1, hc1⟩ := q2.at ins0 (k).toNat (by omega)
   have hel1 := getD_Q q3 ins0 (n := (k).toNat) (by have := q2.len_eq; omega)
   obtain ⟨q26, q27, q28, q29, q30, _⟩ := id hel1
   refine J.ok (OK.index 62 22 5 p.gCode_a p1 p.gCode_n (k).toNat k (p1.add ((k).toNat * 5)) (by kernel_rfl) (by kernel_rfl) hp1 (by omega) (by omega) rfl) ?_
   refine J.ok (OK.ldCells 63 48 (p1.add ((k).toNat * 5)) (insC (p.gCode_l.getD (k).toNat ins0)) (by kernel_rfl) (by kernel_rfl) (by kernel_rfl) (fun j_ v_ hj_ => S7.cell (hc1 j_ v_ hj_))) ?_
   refine J.nw 0 [] [] [] S7 12 [iv 0, iv 0, iv 0, iv 0, iv 0] 48 fun b4 w8 S8 => ?_
   refine J.sb 0 [] [] [] S8 0 rfl (insC (p.gCode_l.getD (k).toNat ins0)) rfl fun w9 S9 => ?_
   refine J.lb 4 [] [] [] S9 0 rfl 64 (.agg (insA (p.gCode_l.getD (k).toNat ins0))) ?_
   refine J.c0 0 [] [] [] S9 65 hb17 (rformed_any (p.gCode_l.getD (k).toNat ins0) _ (insQ_sep hel1 S9)) fun w10 S10 => ?_
   have fk8 : (formB (p.gCode_l.getD (k).toNat ins0)) = true := hff
   refine J.h 2 [] [] [] 66 (.bool (!(formB (p.gCode_l.getD (k).toNat ins0)))) (.bool false) (congrArg Value.bool (by rw [fk8]; rfl)) ?_
   have L6_1 : ∀ (mm_ : Nat) (r_ : Int) (w11 : World), (0 ≤ r_) → (r_ ≤ 16) → Sep w [box b4 (insC (p.gCode_l.getD (k).toNat ins0)) 48, box b3 (mxC (stR p n rs (cs) k) [.slice ra1 ((stC p n rs (cs) k).length) rc1]) 31, rowOf encI ra1 rc1 3 1 (stC p n rs (cs) k), box b2 (mxC rs [.slice la n c]) 31, box b1 (prgC p) 28] w11 → ((16 : Int) - r_).toNat = mm_ → J Tryz.prog 6 209 R K6_0 [(67, iv r_), (12, pv b4), (9, pv b3), (5, pv b2), (4, pv b1), (2, iv k), (3, iv other)] w11 := by
    intro mm1
    induction mm1 using Nat.strongRecOn with
    | _ mm1 ih1 =>
    intro r_ w11 r0 r1 S11 hm1
    refine J.c 5 [] [] [] 68 (r_ < 16) (fun fk9 => ?_) fun fk9 => ?_
    ·skip
     refine J.r 10 [true] [(13, iv r_)] [] ?_
     by_cases fk10 : r_ = ((p.gCode_l.getD (k).toNat ins0).gA)
     rotate_left
     ·skip
      refine J.drawStill S11 20 Tryz.mixed (by kernel_rfl) (by kernel_rfl) (by kernel_rfl) ?_
      intro w14 S14
      refine SL.r 70 (iv r_) ?_
      refine SL.r 71 (.pointer (some ⟨b4, 1, none⟩)) ?_
      refine SL.lb S14 0 rfl 72 (iv ((p.gCode_l.getD (k).toNat ins0).gA)) ?_
      refine SL.r 73 (.bool (r_ != ((p.gCode_l.getD (k).toNat ins0).gA))) ?_
      refine SL.head (.bool true) (congrArg Value.bool (bne_iff_ne.2 fk10)) ?_
      refine SL.r 74 (.bool true) ?_
      refine SL.p (some 75) ?_
      refine SL.p (some 76) ?_
      refine SL.p (some 77) ?_
      refine SL.r 78 (.bool true) ?_
      refine SL.r 79 (.bool true) ?_
      refine SL.r 80 (iv r_) ?_
      refine SL.r 81 (pv b3) ?_
      refine SL.ok (by decide) (OK.indexP 82 29 16 1 b3 0 ((r_).toNat) r_ (by kernel_rfl) (by kernel_rfl) (by omega) (by omega)) ?_
      refine SL.head (.pointer (some ⟨b3, (r_).toNat, none⟩)) (by first | rfl | (rw [Nat.zero_add, Nat.mul_one])) ?_
      refine SL.ok (by decide) (OK.ldBox S14 1 83 3 (r_).toNat (iv ((stR p n rs (cs) k).getD ((r_).toNat) 0)) (by kernel_rfl) rfl (ldV_mi (by kernel_rfl) (by kernel_rfl) (by first | omega | (simp; omega)))) ?_
      refine SL.r 84 (iv r_) ?_
      refine SL.r 85 (pv b2) ?_
      refine SL.ok (by decide) (OK.indexP 86 29 16 1 b2 0 ((r_).toNat) r_ (by kernel_rfl) (by kernel_rfl) (by omega) (by omega)) ?_
      refine SL.head (.pointer (some ⟨b2, (r_).toNat, none⟩)) (by first | rfl | (rw [Nat.zero_add, Nat.mul_one])) ?_
      refine SL.ok (by decide) (OK.ldBox S14 3 87 3 (r_).toNat (iv (rs.getD ((r_).toNat) 0)) (by kernel_rfl) rfl (ldV_mi (by kernel_rfl) (by kernel_rfl) (by first | omega | (simp; omega)))) ?_
      refine SL.r 88 (.bool (((stR p n rs (cs) k).getD ((r_).toNat) 0) != (rs.getD ((r_).toNat) 0))) ?_
      refine SL.r 89 (.bool (((stR p n rs (cs) k).getD ((r_).toNat) 0) != (rs.getD ((r_).toNat) 0))) ?_
      refine SL.done ?_
      refine TL.done (by kernel_rfl) ?_
      refine J.cn 0 [] [] [] 89 (((stR p n rs (cs) k).getD ((r_).toNat) 0) = (rs.getD ((r_).toNat) 0)) (fun fk13 => ?_) fun fk13 => ?_
      ·skip
       refine J.wi 5 [false] [] [] 90 (r_ + 1) ?_
       exact J.t 3 (ih1 _ (show ((16 : Int) - (r_ + 1)).toNat < mm1 from by omega) (r_ + 1) w14 (by omega) (by omega) S14 rfl)
      refine J.e 5 [.bool false] Tryz.func6 (hR _ _ ?_)
      exact absurd (hkR r_.toNat (by omega)) fk13
     by_cases fk11 : ((p.gCode_l.getD (k).toNat ins0).gOp) = 3
     rotate_left
     ·skip
      refine J.drawStill S11 20 Tryz.mixed (by kernel_rfl) (by kernel_rfl) (by kernel_rfl) ?_
      intro w13 S13
      refine SL.r 70 (iv r_) ?_
      refine SL.r 71 (.pointer (some ⟨b4, 1, none⟩)) ?_
      refine SL.lb S13 0 rfl 72 (iv ((p.gCode_l.getD (k).toNat ins0).gA)) ?_
      refine SL.r 73 (.bool (r_ != ((p.gCode_l.getD (k).toNat ins0).gA))) ?_
      refine SL.head (.bool false) (congrArg Value.bool (bne_eq_false_iff_eq.2 fk10)) ?_
      refine SL.r 74 (.bool false) ?_
      refine SL.r 75 (pv b4) ?_
      refine SL.lb S13 0 rfl 76 (iv ((p.gCode_l.getD (k).toNat ins0).gOp)) ?_
      refine SL.r 77 (.bool (((p.gCode_l.getD (k).toNat ins0).gOp) == 3)) ?_
      refine SL.head (.bool false) (congrArg Value.bool (beq_eq_false_iff_ne.2 fk11)) ?_
      refine SL.r 78 (.bool false) ?_
      refine SL.r 79 (.bool false) ?_
      refine SL.p (some 80) ?_
      refine SL.p (some 81) ?_
      refine SL.p (some 82) ?_
      refine SL.p (some 83) ?_
      refine SL.p (some 84) ?_
      refine SL.p (some 85) ?_
      refine SL.p (some 86) ?_
      refine SL.p (some 87) ?_
      refine SL.p (some 88) ?_
      refine SL.r 89 (.bool false) ?_
      refine SL.done ?_
      refine TL.done (by kernel_rfl) ?_
      refine J.wi 5 [false] [] [] 90 (r_ + 1) ?_
      exact J.t 3 (ih1 _ (show ((16 : Int) - (r_ + 1)).toNat < mm1 from by omega) (r_ + 1) w13 (by omega) (by omega) S13 rfl)
     refine J.drawStill S11 20 Tryz.mixed (by kernel_rfl) (by kernel_rfl) (by kernel_rfl) ?_
     intro w12 S12
     refine SL.r 70 (iv r_) ?_
     refine SL.r 71 (.pointer (some ⟨b4, 1, none⟩)) ?_
     refine SL.lb S12 0 rfl 72 (iv ((p.gCode_l.getD (k).toNat ins0).gA)) ?_
     refine SL.r 73 (.bool (r_ != ((p.gCode_l.getD (k).toNat ins0).gA))) ?_
     refine SL.head (.bool false) (congrArg Value.bool (bne_eq_false_iff_eq.2 fk10)) ?_
     refine SL.r 74 (.bool false) ?_
     refine SL.r 75 (pv b4) ?_
     refine SL.lb S12 0 rfl 76 (iv ((p.gCode_l.getD (k).toNat ins0).gOp)) ?_
     refine SL.r 77 (.bool (((p.gCode_l.getD (k).toNat ins0).gOp) == 3)) ?_
     refine SL.head (.bool true) (congrArg Value.bool (beq_iff_eq.2 fk11)) ?_
     refine SL.r 78 (.bool true) ?_
     refine SL.r 79 (.bool true) ?_
     refine SL.r 80 (iv r_) ?_
     refine SL.r 81 (pv b3) ?_
     refine SL.ok (by decide) (OK.indexP 82 29 16 1 b3 0 ((r_).toNat) r_ (by kernel_rfl) (by kernel_rfl) (by omega) (by omega)) ?_
     refine SL.head (.pointer (some ⟨b3, (r_).toNat, none⟩)) (by first | rfl | (rw [Nat.zero_add, Nat.mul_one])) ?_
     refine SL.ok (by decide) (OK.ldBox S12 1 83 3 (r_).toNat (iv ((stR p n rs (cs) k).getD ((r_).toNat) 0)) (by kernel_rfl) rfl (ldV_mi (by kernel_rfl) (by kernel_rfl) (by first | omega | (simp; omega)))) ?_
     refine SL.r 84 (iv r_) ?_
     refine SL.r 85 (pv b2) ?_
     refine SL.ok (by decide) (OK.indexP 86 29 16 1 b2 0 ((r_).toNat) r_ (by kernel_rfl) (by kernel_rfl) (by omega) (by omega)) ?_
     refine SL.head (.pointer (some ⟨b2, (r_).toNat, none⟩)) (by first | rfl | (rw [Nat.zero_add, Nat.mul_one])) ?_
     refine SL.ok (by decide) (OK.ldBox S12 3 87 3 (r_).toNat (iv (rs.getD ((r_).toNat) 0)) (by kernel_rfl) rfl (ldV_mi (by kernel_rfl) (by kernel_rfl) (by first | omega | (simp; omega)))) ?_
     refine SL.r 88 (.bool (((stR p n rs (cs) k).getD ((r_).toNat) 0) != (rs.getD ((r_).toNat) 0))) ?_
     refine SL.r 89 (.bool (((stR p n rs (cs) k).getD ((r_).toNat) 0) != (rs.getD ((r_).toNat) 0))) ?_
     refine SL.done ?_
     refine TL.done (by kernel_rfl) ?_
     refine J.cn 0 [] [] [] 89 (((stR p n rs (cs) k).getD ((r_).toNat) 0) = (rs.getD ((r_).toNat) 0)) (fun fk12 => ?_) fun fk12 => ?_
     ·skip
      refine J.wi 5 [false] [] [] 90 (r_ + 1) ?_
      exact J.t 3 (ih1 _ (show ((16 : Int) - (r_ + 1)).toNat < mm1 from by omega) (r_ + 1) w12 (by omega) (by omega) S12 rfl)
     refine J.e 5 [.bool false] Tryz.func6 (hR _ _ ?_)
     exact absurd (hkR r_.toNat (by omega)) fk12
    refine J.r 6 [false] [(91, .pointer (some ⟨b2, 16, none⟩))] [] ?_
    refine J.ok (OK.ldBox S11 3 92 26 16 (.slice la n c) (by kernel_rfl) rfl (ldV_mt (n := 16) (by kernel_rfl) (by kernel_rfl) (by first | rfl | assumption | (simp only [List.length_set, List.length_replicate]; first | done | assumption)) (by decide) rfl)) ?_
    have L6_2 : ∀ (mm_ : Nat) (c_ : Int) (w15 : World), (0 ≤ c_) → (c_ ≤ (n : Int)) → Sep w [box b4 (insC (p.gCode_l.getD (k).toNat ins0)) 48, box b3 (mxC (stR p n rs (cs) k) [.slice ra1 ((stC p n rs (cs) k).length) rc1]) 31, rowOf encI ra1 rc1 3 1 (stC p n rs (cs) k), box b2 (mxC rs [.slice la n c]) 31, box b1 (prgC p) 28] w15 → ((n : Int) - c_).toNat = mm_ → J Tryz.prog 6 209 R K6_1 [(94, iv c_), (93, iv (n : Int)), (12, pv b4), (9, pv b3), (5, pv b2), (4, pv b1), (2, iv k), (3, iv other)] w15 := by
     intro mm2
     induction mm2 using Nat.strongRecOn with
     | _ mm2 ih2 =>
     intro c_ w15 c0 c1 S15 hm2
     refine J.c 5 [] [] [] 95 (c_ < (n : Int)) (fun fk14 => ?_) fun fk14 => ?_
     ·skip
      refine J.lb 12 [true] [(14, iv c_)] [] S15 0 rfl 98 (iv ((p.gCode_l.getD (k).toNat ins0).gOp)) ?_
      refine J.c 2 [] [] [] 100 (((p.gCode_l.getD (k).toNat ins0).gOp) = 3) (fun fk15 => ?_) fun fk15 => ?_
      ·skip
       refine J.lb 2 [] [(101, iv c_)] [] S15 0 rfl 103 (iv ((p.gCode_l.getD (k).toNat ins0).gK)) ?_
       refine J.c 3 [] [] [] 106 (c_ = ((p.gCode_l.getD (k).toNat ins0).gK)) (fun fk16 => ?_) fun fk16 => ?_
       ·skip
        refine J.r 22 [] [(15, .bool true)] [] ?_
        refine J.drawStill S15 15 Tryz.mixed (by kernel_rfl) (by kernel_rfl) (by kernel_rfl) ?_
        intro w16 S16
        refine SL.r 126 (.bool true) ?_
        refine SL.r 127 (.bool false) ?_
        refine SL.r 128 (.bool false) ?_
        refine SL.p (some 129) ?_
        refine SL.p (some 130) ?_
        refine SL.p (some 131) ?_
        refine SL.p (some 132) ?_
        refine SL.p (some 133) ?_
        refine SL.p (some 134) ?_
        refine SL.p (some 135) ?_
        refine SL.p (some 136) ?_
        refine SL.p (some 137) ?_
        refine SL.p (some 138) ?_
        refine SL.p (some 139) ?_
        refine SL.r 140 (.bool false) ?_
        refine SL.done ?_
        refine TL.done (by kernel_rfl) ?_
        refine J.wi 5 [false] [] [] 141 (c_ + 1) ?_
        exact J.t 3 (ih2 _ (show ((n : Int) - (c_ + 1)).toNat < mm2 from by omega) (c_ + 1) w16 (by omega) (by omega) S16 rfl)
       refine J.lb 1 [] [] [] S15 0 rfl 108 (iv ((p.gCode_l.getD (k).toNat ins0).gOp)) ?_
       refine J.c 2 [] [] [] 110 (((p.gCode_l.getD (k).toNat ins0).gOp) = 22) (fun fk17 => ?_) fun fk17 => ?_
       ·skip
        refine J.lb 2 [] [(111, iv c_)] [] S15 0 rfl 113 (iv ((p.gCode_l.getD (k).toNat ins0).gK)) ?_
        refine J.h 1 [] [] [] 114 (iv (IntKind.wrap .i64 (Int.tdiv ((p.gCode_l.getD (k).toNat ins0).gK) 32))) (iv (((p.gCode_l.getD (k).toNat ins0).gK) / 32)) (congrArg (Value.int .i64) (IntWalk.i64_quo _ _ (by omega))) ?_
        refine J.c 2 [] [] [] 116 (c_ = (((p.gCode_l.getD (k).toNat ins0).gK) / 32)) (fun fk18 => ?_) fun fk18 => ?_
        ·skip
         refine J.r 12 [] [(15, .bool true)] [] ?_
         refine J.drawStill S15 15 Tryz.mixed (by kernel_rfl) (by kernel_rfl) (by kernel_rfl) ?_
         intro w17 S17
         refine SL.r 126 (.bool true) ?_
         refine SL.r 127 (.bool false) ?_
         refine SL.r 128 (.bool false) ?_
         refine SL.p (some 129) ?_
         refine SL.p (some 130) ?_
         refine SL.p (some 131) ?_
         refine SL.p (some 132) ?_
         refine SL.p (some 133) ?_
         refine SL.p (some 134) ?_
         refine SL.p (some 135) ?_
         refine SL.p (some 136) ?_
         refine SL.p (some 137) ?_
         refine SL.p (some 138) ?_
         refine SL.p (some 139) ?_
         refine SL.r 140 (.bool false) ?_
         refine SL.done ?_
         refine TL.done (by kernel_rfl) ?_
         refine J.wi 5 [false] [] [] 141 (c_ + 1) ?_
         exact J.t 3 (ih2 _ (show ((n : Int) - (c_ + 1)).toNat < mm2 from by omega) (c_ + 1) w17 (by omega) (by omega) S17 rfl)
        refine J.lb 2 [] [(117, iv c_)] [] S15 0 rfl 119 (iv ((p.gCode_l.getD (k).toNat ins0).gK)) ?_
        refine J.h 1 [] [] [] 120 (iv (IntKind.wrap .i64 (Int.tdiv ((p.gCode_l.getD (k).toNat ins0).gK) 32))) (iv (((p.gCode_l.getD (k).toNat ins0).gK) / 32)) (congrArg (Value.int .i64) (IntWalk.i64_quo _ _ (by omega))) ?_
        refine J.wi 1 [] [] [] 121 ((((p.gCode_l.getD (k).toNat ins0).gK) / 32) + 1) ?_
        refine J.r 7 [] [(15, .bool (c_ == ((((p.gCode_l.getD (k).toNat ins0).gK) / 32) + 1)))] [] ?_
        by_cases fk19 : c_ = ((((p.gCode_l.getD (k).toNat ins0).gK) / 32) + 1)
        ·skip
         refine J.drawStill S15 15 Tryz.mixed (by kernel_rfl) (by kernel_rfl) (by kernel_rfl) ?_
         intro w18 S18
         refine SL.r 126 (.bool (c_ == ((((p.gCode_l.getD (k).toNat ins0).gK) / 32) + 1))) ?_
         refine SL.head (.bool true) (congrArg Value.bool (beq_iff_eq.2 fk19)) ?_
         refine SL.r 127 (.bool false) ?_
         refine SL.r 128 (.bool false) ?_
         refine SL.p (some 129) ?_
         refine SL.p (some 130) ?_
         refine SL.p (some 131) ?_
         refine SL.p (some 132) ?_
         refine SL.p (some 133) ?_
         refine SL.p (some 134) ?_
         refine SL.p (some 135) ?_
         refine SL.p (some 136) ?_
         refine SL.p (some 137) ?_
         refine SL.p (some 138) ?_
         refine SL.p (some 139) ?_
         refine SL.r 140 (.bool false) ?_
         refine SL.done ?_
         refine TL.done (by kernel_rfl) ?_
         refine J.wi 5 [false] [] [] 141 (c_ + 1) ?_
         exact J.t 3 (ih2 _ (show ((n : Int) - (c_ + 1)).toNat < mm2 from by omega) (c_ + 1) w18 (by omega) (by omega) S18 rfl)
        obtain ⟨p2, hp2⟩ := row1_addr (S15.nth 2 rfl) (show 0 < (stC p n rs (cs) k).length by first | omega | (simp; omega))
        obtain ⟨p3, hp3, hc2⟩ := hI.at 0 (c_).toNat (by omega)
        refine J.drawStill S15 15 Tryz.mixed (by kernel_rfl) (by kernel_rfl) (by kernel_rfl) ?_
        intro w19 S19
        refine SL.r 126 (.bool (c_ == ((((p.gCode_l.getD (k).toNat ins0).gK) / 32) + 1))) ?_
        refine SL.head (.bool false) (congrArg Value.bool (beq_eq_false_iff_ne.2 fk19)) ?_
        refine SL.r 127 (.bool true) ?_
        refine SL.r 128 (.bool true) ?_
        refine SL.r 129 (.pointer (some ⟨b3, 16, none⟩)) ?_
        refine SL.ok (by decide) (OK.ldBox S19 1 130 26 16 (.slice ra1 ((stC p n rs (cs) k).length) rc1) (by kernel_rfl) rfl (ldV_mt (n := 16) (by kernel_rfl) (by kernel_rfl) (by first | rfl | assumption | (simp only [List.length_set, List.length_replicate]; first | done | assumption)) (by decide) rfl)) ?_
        refine SL.r 131 (iv c_) ?_
        refine SL.ok (by decide) (OK.index 132 26 1 ra1 p2 ((stC p n rs (cs) k).length) (c_).toNat c_ (p2.add (c_).toNat) (by kernel_rfl) (by kernel_rfl) hp2 (by omega) (by first | omega | (simp; omega)) (by rw [Nat.mul_one])) ?_
        refine SL.ok (by decide) (OK.ldCell 133 3 (p2.add (c_).toNat) (iv ((stC p n rs (cs) k).getD (c_).toNat 0)) (by kernel_rfl) (by kernel_rfl) (row1_cell (g := (Value.int .i64)) S19 2 rfl hp2 0 (c_).toNat (by first | omega | (simp; omega)))) ?_
        refine SL.r 134 (.pointer (some ⟨b2, 16, none⟩)) ?_
        refine SL.ok (by decide) (OK.ldBox S19 3 135 26 16 (.slice la n c) (by kernel_rfl) rfl (ldV_mt (n := 16) (by kernel_rfl) (by kernel_rfl) (by first | rfl | assumption | (simp only [List.length_set, List.length_replicate]; first | done | assumption)) (by decide) rfl)) ?_
        refine SL.r 136 (iv c_) ?_
        refine SL.ok (by decide) (OK.index 137 26 1 la p3 n (c_).toNat c_ (p3.add (c_).toNat) (by kernel_rfl) (by kernel_rfl) hp3 (by omega) (by omega) (by rw [Nat.mul_one])) ?_
        refine SL.ok (by decide) (OK.ldCell 138 3 (p3.add (c_).toNat) (iv (cs.getD (c_).toNat 0)) (by kernel_rfl) (by kernel_rfl) (S19.cell hc2)) ?_
        refine SL.r 139 (.bool (((stC p n rs (cs) k).getD (c_).toNat 0) != (cs.getD (c_).toNat 0))) ?_
        refine SL.r 140 (.bool (((stC p n rs (cs) k).getD (c_).toNat 0) != (cs.getD (c_).toNat 0))) ?_
        refine SL.done ?_
        refine TL.done (by kernel_rfl) ?_
        refine J.cn 0 [] [] [] 140 (((stC p n rs (cs) k).getD (c_).toNat 0) = (cs.getD (c_).toNat 0)) (fun fk20 => ?_) fun fk20 => ?_
        ·skip
         refine J.wi 5 [false] [] [] 141 (c_ + 1) ?_
         exact J.t 3 (ih2 _ (show ((n : Int) - (c_ + 1)).toNat < mm2 from by omega) (c_ + 1) w19 (by omega) (by omega) S19 rfl)
        refine J.e 5 [.bool false] Tryz.func6 (hR _ _ ?_)
        exact absurd (hkC c_.toNat (by omega)) fk20
       refine J.r 18 [] [(15, .bool false)] [] ?_
       obtain ⟨p4, hp4⟩ := row1_addr (S15.nth 2 rfl) (show 0 < (stC p n rs (cs) k).length by first | omega | (simp; omega))
       obtain ⟨p5, hp5, hc3⟩ := hI.at 0 (c_).toNat (by omega)
       refine J.drawStill S15 15 Tryz.mixed (by kernel_rfl) (by kernel_rfl) (by kernel_rfl) ?_
       intro w20 S20
       refine SL.r 126 (.bool false) ?_
       refine SL.r 127 (.bool true) ?_
       refine SL.r 128 (.bool true) ?_
       refine SL.r 129 (.pointer (some ⟨b3, 16, none⟩)) ?_
       refine SL.ok (by decide) (OK.ldBox S20 1 130 26 16 (.slice ra1 ((stC p n rs (cs) k).length) rc1) (by kernel_rfl) rfl (ldV_mt (n := 16) (by kernel_rfl) (by kernel_rfl) (by first | rfl | assumption | (simp only [List.length_set, List.length_replicate]; first | done | assumption)) (by decide) rfl)) ?_
       refine SL.r 131 (iv c_) ?_
       refine SL.ok (by decide) (OK.index 132 26 1 ra1 p4 ((stC p n rs (cs) k).length) (c_).toNat c_ (p4.add (c_).toNat) (by kernel_rfl) (by kernel_rfl) hp4 (by omega) (by first | omega | (simp; omega)) (by rw [Nat.mul_one])) ?_
       refine SL.ok (by decide) (OK.ldCell 133 3 (p4.add (c_).toNat) (iv ((stC p n rs (cs) k).getD (c_).toNat 0)) (by kernel_rfl) (by kernel_rfl) (row1_cell (g := (Value.int .i64)) S20 2 rfl hp4 0 (c_).toNat (by first | omega | (simp; omega)))) ?_
       refine SL.r 134 (.pointer (some ⟨b2, 16, none⟩)) ?_
       refine SL.ok (by decide) (OK.ldBox S20 3 135 26 16 (.slice la n c) (by kernel_rfl) rfl (ldV_mt (n := 16) (by kernel_rfl) (by kernel_rfl) (by first | rfl | assumption | (simp only [List.length_set, List.length_replicate]; first | done | assumption)) (by decide) rfl)) ?_
       refine SL.r 136 (iv c_) ?_
       refine SL.ok (by decide) (OK.index 137 26 1 la p5 n (c_).toNat c_ (p5.add (c_).toNat) (by kernel_rfl) (by kernel_rfl) hp5 (by omega) (by omega) (by rw [Nat.mul_one])) ?_
       refine SL.ok (by decide) (OK.ldCell 138 3 (p5.add (c_).toNat) (iv (cs.getD (c_).toNat 0)) (by kernel_rfl) (by kernel_rfl) (S20.cell hc3)) ?_
       refine SL.r 139 (.bool (((stC p n rs (cs) k).getD (c_).toNat 0) != (cs.getD (c_).toNat 0))) ?_
       refine SL.r 140 (.bool (((stC p n rs (cs) k).getD (c_).toNat 0) != (cs.getD (c_).toNat 0))) ?_
       refine SL.done ?_
       refine TL.done (by kernel_rfl) ?_
       refine J.cn 0 [] [] [] 140 (((stC p n rs (cs) k).getD (c_).toNat 0) = (cs.getD (c_).toNat 0)) (fun fk21 => ?_) fun fk21 => ?_
       ·skip
        refine J.wi 5 [false] [] [] 141 (c_ + 1) ?_
        exact J.t 3 (ih2 _ (show ((n : Int) - (c_ + 1)).toNat < mm2 from by omega) (c_ + 1) w20 (by omega) (by omega) S20 rfl)
       refine J.e 5 [.bool false] Tryz.func6 (hR _ _ ?_)
       exact absurd (hkC c_.toNat (by omega)) fk21
      refine J.lb 7 [] [(106, .bool false)] [] S15 0 rfl 108 (iv ((p.gCode_l.getD (k).toNat ins0).gOp)) ?_
      refine J.c 2 [] [] [] 110 (((p.gCode_l.getD (k).toNat ins0).gOp) = 22) (fun fk22 => ?_) fun fk22 => ?_
      ·skip
       refine J.lb 2 [] [(111, iv c_)] [] S15 0 rfl 113 (iv ((p.gCode_l.getD (k).toNat ins0).gK)) ?_
       refine J.h 1 [] [] [] 114 (iv (IntKind.wrap .i64 (Int.tdiv ((p.gCode_l.getD (k).toNat ins0).gK) 32))) (iv (((p.gCode_l.getD (k).toNat ins0).gK) / 32)) (congrArg (Value.int .i64) (IntWalk.i64_quo _ _ (by omega))) ?_
       refine J.c 2 [] [] [] 116 (c_ = (((p.gCode_l.getD (k).toNat ins0).gK) / 32)) (fun fk23 => ?_) fun fk23 => ?_
       ·skip
        refine J.r 12 [] [(15, .bool true)] [] ?_
        refine J.drawStill S15 15 Tryz.mixed (by kernel_rfl) (by kernel_rfl) (by kernel_rfl) ?_
        intro w21 S21
        refine SL.r 126 (.bool true) ?_
        refine SL.r 127 (.bool false) ?_
        refine SL.r 128 (.bool false) ?_
        refine SL.p (some 129) ?_
        refine SL.p (some 130) ?_
        refine SL.p (some 131) ?_
        refine SL.p (some 132) ?_
        refine SL.p (some 133) ?_
        refine SL.p (some 134) ?_
        refine SL.p (some 135) ?_
        refine SL.p (some 136) ?_
        refine SL.p (some 137) ?_
        refine SL.p (some 138) ?_
        refine SL.p (some 139) ?_
        refine SL.r 140 (.bool false) ?_
        refine SL.done ?_
        refine TL.done (by kernel_rfl) ?_
        refine J.wi 5 [false] [] [] 141 (c_ + 1) ?_
        exact J.t 3 (ih2 _ (show ((n : Int) - (c_ + 1)).toNat < mm2 from by omega) (c_ + 1) w21 (by omega) (by omega) S21 rfl)
       refine J.lb 2 [] [(117, iv c_)] [] S15 0 rfl 119 (iv ((p.gCode_l.getD (k).toNat ins0).gK)) ?_
       refine J.h 1 [] [] [] 120 (iv (IntKind.wrap .i64 (Int.tdiv ((p.gCode_l.getD (k).toNat ins0).gK) 32))) (iv (((p.gCode_l.getD (k).toNat ins0).gK) / 32)) (congrArg (Value.int .i64) (IntWalk.i64_quo _ _ (by omega))) ?_
       refine J.wi 1 [] [] [] 121 ((((p.gCode_l.getD (k).toNat ins0).gK) / 32) + 1) ?_
       refine J.r 7 [] [(15, .bool (c_ == ((((p.gCode_l.getD (k).toNat ins0).gK) / 32) + 1)))] [] ?_
       by_cases fk24 : c_ = ((((p.gCode_l.getD (k).toNat ins0).gK) / 32) + 1)
       ·skip
        refine J.drawStill S15 15 Tryz.mixed (by kernel_rfl) (by kernel_rfl) (by kernel_rfl) ?_
        intro w22 S22
        refine SL.r 126 (.bool (c_ == ((((p.gCode_l.getD (k).toNat ins0).gK) / 32) + 1))) ?_
        refine SL.head (.bool true) (congrArg Value.bool (beq_iff_eq.2 fk24)) ?_
        refine SL.r 127 (.bool false) ?_
        refine SL.r 128 (.bool false) ?_
        refine SL.p (some 129) ?_
        refine SL.p (some 130) ?_
        refine SL.p (some 131) ?_
        refine SL.p (some 132) ?_
        refine SL.p (some 133) ?_
        refine SL.p (some 134) ?_
        refine SL.p (some 135) ?_
        refine SL.p (some 136) ?_
        refine SL.p (some 137) ?_
        refine SL.p (some 138) ?_
        refine SL.p (some 139) ?_
        refine SL.r 140 (.bool false) ?_
        refine SL.done ?_
        refine TL.done (by kernel_rfl) ?_
        refine J.wi 5 [false] [] [] 141 (c_ + 1) ?_
        exact J.t 3 (ih2 _ (show ((n : Int) - (c_ + 1)).toNat < mm2 from by omega) (c_ + 1) w22 (by omega) (by omega) S22 rfl)
       obtain ⟨p6, hp6⟩ := row1_addr (S15.nth 2 rfl) (show 0 < (stC p n rs (cs) k).length by first | omega | (simp; omega))
       obtain ⟨p7, hp7, hc4⟩ := hI.at 0 (c_).toNat (by omega)
       refine J.drawStill S15 15 Tryz.mixed (by kernel_rfl) (by kernel_rfl) (by kernel_rfl) ?_
       intro w23 S23
       refine SL.r 126 (.bool (c_ == ((((p.gCode_l.getD (k).toNat ins0).gK) / 32) + 1))) ?_
       refine SL.head (.bool false) (congrArg Value.bool (beq_eq_false_iff_ne.2 fk24)) ?_
       refine SL.r 127 (.bool true) ?_
       refine SL.r 128 (.bool true) ?_
       refine SL.r 129 (.pointer (some ⟨b3, 16, none⟩)) ?_
       refine SL.ok (by decide) (OK.ldBox S23 1 130 26 16 (.slice ra1 ((stC p n rs (cs) k).length) rc1) (by kernel_rfl) rfl (ldV_mt (n := 16) (by kernel_rfl) (by kernel_rfl) (by first | rfl | assumption | (simp only [List.length_set, List.length_replicate]; first | done | assumption)) (by decide) rfl)) ?_
       refine SL.r 131 (iv c_) ?_
       refine SL.ok (by decide) (OK.index 132 26 1 ra1 p6 ((stC p n rs (cs) k).length) (c_).toNat c_ (p6.add (c_).toNat) (by kernel_rfl) (by kernel_rfl) hp6 (by omega) (by first | omega | (simp; omega)) (by rw [Nat.mul_one])) ?_
       refine SL.ok (by decide) (OK.ldCell 133 3 (p6.add (c_).toNat) (iv ((stC p n rs (cs) k).getD (c_).toNat 0)) (by kernel_rfl) (by kernel_rfl) (row1_cell (g := (Value.int .i64)) S23 2 rfl hp6 0 (c_).toNat (by first | omega | (simp; omega)))) ?_
       refine SL.r 134 (.pointer (some ⟨b2, 16, none⟩)) ?_
       refine SL.ok (by decide) (OK.ldBox S23 3 135 26 16 (.slice la n c) (by kernel_rfl) rfl (ldV_mt (n := 16) (by kernel_rfl) (by kernel_rfl) (by first | rfl | assumption | (simp only [List.length_set, List.length_replicate]; first | done | assumption)) (by decide) rfl)) ?_
       refine SL.r 136 (iv c_) ?_
       refine SL.ok (by decide) (OK.index 137 26 1 la p7 n (c_).toNat c_ (p7.add (c_).toNat) (by kernel_rfl) (by kernel_rfl) hp7 (by omega) (by omega) (by rw [Nat.mul_one])) ?_
       refine SL.ok (by decide) (OK.ldCell 138 3 (p7.add (c_).toNat) (iv (cs.getD (c_).toNat 0)) (by kernel_rfl) (by kernel_rfl) (S23.cell hc4)) ?_
       refine SL.r 139 (.bool (((stC p n rs (cs) k).getD (c_).toNat 0) != (cs.getD (c_).toNat 0))) ?_
       refine SL.r 140 (.bool (((stC p n rs (cs) k).getD (c_).toNat 0) != (cs.getD (c_).toNat 0))) ?_
       refine SL.done ?_
       refine TL.done (by kernel_rfl) ?_
       refine J.cn 0 [] [] [] 140 (((stC p n rs (cs) k).getD (c_).toNat 0) = (cs.getD (c_).toNat 0)) (fun fk25 => ?_) fun fk25 => ?_
       ·skip
        refine J.wi 5 [false] [] [] 141 (c_ + 1) ?_
        exact J.t 3 (ih2 _ (show ((n : Int) - (c_ + 1)).toNat < mm2 from by omega) (c_ + 1) w23 (by omega) (by omega) S23 rfl)
       refine J.e 5 [.bool false] Tryz.func6 (hR _ _ ?_)
       exact absurd (hkC c_.toNat (by omega)) fk25
      refine J.r 18 [] [(15, .bool false)] [] ?_
      obtain ⟨p8, hp8⟩ := row1_addr (S15.nth 2 rfl) (show 0 < (stC p n rs (cs) k).length by first | omega | (simp; omega))
      obtain ⟨p9, hp9, hc5⟩ := hI.at 0 (c_).toNat (by omega)
      refine J.drawStill S15 15 Tryz.mixed (by kernel_rfl) (by kernel_rfl) (by kernel_rfl) ?_
      intro w24 S24
      refine SL.r 126 (.bool false) ?_
      refine SL.r 127 (.bool true) ?_
      refine SL.r 128 (.bool true) ?_
      refine SL.r 129 (.pointer (some ⟨b3, 16, none⟩)) ?_
      refine SL.ok (by decide) (OK.ldBox S24 1 130 26 16 (.slice ra1 ((stC p n rs (cs) k).length) rc1) (by kernel_rfl) rfl (ldV_mt (n := 16) (by kernel_rfl) (by kernel_rfl) (by first | rfl | assumption | (simp only [List.length_set, List.length_replicate]; first | done | assumption)) (by decide) rfl)) ?_
      refine SL.r 131 (iv c_) ?_
      refine SL.ok (by decide) (OK.index 132 26 1 ra1 p8 ((stC p n rs (cs) k).length) (c_).toNat c_ (p8.add (c_).toNat) (by kernel_rfl) (by kernel_rfl) hp8 (by omega) (by first | omega | (simp; omega)) (by rw [Nat.mul_one])) ?_
      refine SL.ok (by decide) (OK.ldCell 133 3 (p8.add (c_).toNat) (iv ((stC p n rs (cs) k).getD (c_).toNat 0)) (by kernel_rfl) (by kernel_rfl) (row1_cell (g := (Value.int .i64)) S24 2 rfl hp8 0 (c_).toNat (by first | omega | (simp; omega)))) ?_
      refine SL.r 134 (.pointer (some ⟨b2, 16, none⟩)) ?_
      refine SL.ok (by decide) (OK.ldBox S24 3 135 26 16 (.slice la n c) (by kernel_rfl) rfl (ldV_mt (n := 16) (by kernel_rfl) (by kernel_rfl) (by first | rfl | assumption | (simp only [List.length_set, List.length_replicate]; first | done | assumption)) (by decide) rfl)) ?_
      refine SL.r 136 (iv c_) ?_
      refine SL.ok (by decide) (OK.index 137 26 1 la p9 n (c_).toNat c_ (p9.add (c_).toNat) (by kernel_rfl) (by kernel_rfl) hp9 (by omega) (by omega) (by rw [Nat.mul_one])) ?_
      refine SL.ok (by decide) (OK.ldCell 138 3 (p9.add (c_).toNat) (iv (cs.getD (c_).toNat 0)) (by kernel_rfl) (by kernel_rfl) (S24.cell hc5)) ?_
      refine SL.r 139 (.bool (((stC p n rs (cs) k).getD (c_).toNat 0) != (cs.getD (c_).toNat 0))) ?_
      refine SL.r 140 (.bool (((stC p n rs (cs) k).getD (c_).toNat 0) != (cs.getD (c_).toNat 0))) ?_
      refine SL.done ?_
      refine TL.done (by kernel_rfl) ?_
      refine J.cn 0 [] [] [] 140 (((stC p n rs (cs) k).getD (c_).toNat 0) = (cs.getD (c_).toNat 0)) (fun fk26 => ?_) fun fk26 => ?_
      ·skip
       refine J.wi 5 [false] [] [] 141 (c_ + 1) ?_
       exact J.t 3 (ih2 _ (show ((n : Int) - (c_ + 1)).toNat < mm2 from by omega) (c_ + 1) w24 (by omega) (by omega) S24 rfl)
      refine J.e 5 [.bool false] Tryz.func6 (hR _ _ ?_)
      exact absurd (hkC c_.toNat (by omega)) fk26
     refine J.wi 7 [false] [] [] 144 ((Int.tmod other 16) + 16) ?_
     refine J.h 1 [] [] [] 145 (iv (Int.tmod ((Int.tmod other 16) + 16) 16)) (iv (((Int.tmod other 16) + 16) % 16)) (congrArg (Value.int .i64) (IntWalk.rem_in _ _ (by omega))) ?_
     refine J.lb 7 [] [(146, iv (((Int.tmod other 16) + 16) % 16)), (16, iv (((Int.tmod other 16) + 16) % 16))] [] S15 0 rfl 148 (iv ((p.gCode_l.getD (k).toNat ins0).gA)) ?_
     refine J.c 2 [] [] [] 150 ((((Int.tmod other 16) + 16) % 16) = ((p.gCode_l.getD (k).toNat ins0).gA)) (fun fk27 => ?_) fun fk27 => ?_
     ·skip
      refine J.e 28 [.bool true] Tryz.func6 (hR _ _ ?_)
      exact ⟨rfl, S15.nil⟩
     refine J.lb 2 [] [(151, iv (((Int.tmod other 16) + 16) % 16))] [] S15 0 rfl 153 (iv ((p.gCode_l.getD (k).toNat ins0).gB)) ?_
     refine J.c 3 [] [] [] 156 ((((Int.tmod other 16) + 16) % 16) = ((p.gCode_l.getD (k).toNat ins0).gB)) (fun fk28 => ?_) fun fk28 => ?_
     ·skip
      refine J.e 22 [.bool true] Tryz.func6 (hR _ _ ?_)
      exact ⟨rfl, S15.nil⟩
     refine J.lb 2 [] [(157, iv (((Int.tmod other 16) + 16) % 16))] [] S15 0 rfl 159 (iv ((p.gCode_l.getD (k).toNat ins0).gC)) ?_
     refine J.c 3 [] [] [] 162 ((((Int.tmod other 16) + 16) % 16) = ((p.gCode_l.getD (k).toNat ins0).gC)) (fun fk29 => ?_) fun fk29 => ?_
     ·skip
      refine J.e 16 [.bool true] Tryz.func6 (hR _ _ ?_)
      exact ⟨rfl, S15.nil⟩
     refine J.lb 1 [] [] [] S15 0 rfl 164 (iv ((p.gCode_l.getD (k).toNat ins0).gOp)) ?_
     refine J.c 2 [] [] [] 166 (((p.gCode_l.getD (k).toNat ins0).gOp) = 19) (fun fk30 => ?_) fun fk30 => ?_
     ·skip
      refine J.lb 2 [] [(167, iv (((Int.tmod other 16) + 16) % 16))] [] S15 0 rfl 169 (iv ((p.gCode_l.getD (k).toNat ins0).gK)) ?_
      refine J.c 4 [] [] [] 172 ((((Int.tmod other 16) + 16) % 16) = ((p.gCode_l.getD (k).toNat ins0).gK)) (fun fk31 => ?_) fun fk31 => ?_
      ·skip
       refine J.e 5 [.bool true] Tryz.func6 (hR _ _ ?_)
       exact ⟨rfl, S15.nil⟩
      refine J.r 4 [false] [] [] ?_
      refine J.ok (OK.ldBox S15 3 173 31 0 (.agg (mxA rs [.slice la n c])) (by kernel_rfl) rfl (ldV_ma (n := 16) (by kernel_rfl) (by kernel_rfl) (by first | rfl | assumption | (simp only [List.length_set, List.length_replicate]; first | done | assumption)))) ?_
      refine J.cf 0 [] [] [] 174 hb14 (rcopy_any rs la n c cs _ (by first | assumption | rfl | (simp only [List.length_set, List.length_replicate]; assumption) | exact List.length_replicate) (hI.sep S15) (by omega)) ?_
      rintro _ w25 ⟨ra2, rc2, rfl, T3⟩
      have S25 : Sep w [rowOf encI ra2 rc2 3 1 cs, box b4 (insC (p.gCode_l.getD (k).toNat ins0)) 48, box b3 (mxC (stR p n rs (cs) k) [.slice ra1 ((stC p n rs (cs) k).length) rc1]) 31, rowOf encI ra1 rc1 3 1 (stC p n rs (cs) k), box b2 (mxC rs [.slice la n c]) 31, box b1 (prgC p) 28] w25 := S15.trans T3
      refine J.new S25 17 (mxC (List.replicate 16 (0 : Int)) [.slice none 0 0]) 31 (by kernel_rfl) ?_
      intro b5 w26 S26
      refine J.stBox S26 0 31 0 (.agg (mxA rs [.slice ra2 cs.length rc2])) (mxC rs [.slice ra2 cs.length rc2]) [box b5 (mxC rs [.slice ra2 cs.length rc2]) 31, rowOf encI ra2 rc2 3 1 cs, box b4 (insC (p.gCode_l.getD (k).toNat ins0)) 48, box b3 (mxC (stR p n rs (cs) k) [.slice ra1 ((stC p n rs (cs) k).length) rc1]) 31, rowOf encI ra1 rc1 3 1 (stC p n rs (cs) k), box b2 (mxC rs [.slice la n c]) 31, box b1 (prgC p) 28] (by kernel_rfl) rfl (by rw [mx_size (n := 16) (k := 17) (by first | rfl | assumption | (simp only [List.length_set, List.length_replicate]; first | done | assumption)) rfl]; kernel_rfl) (stV_ma (n := 16) (by first | rfl | assumption | (simp only [List.length_set, List.length_replicate]; first | done | assumption)) (by first | rfl | assumption | (simp only [List.length_set, List.length_replicate]; first | done | assumption)) rfl rfl) rfl ?_
      intro w27 S27
      refine J.r 6 [] [(177, pv b5), (176, iv other), (175, iv (((Int.tmod other 16) + 16) % 16))] [] ?_
      refine J.ok (OK.indexP 178 29 16 1 b5 0 ((((Int.tmod other 16) + 16) % 16).toNat) (((Int.tmod other 16) + 16) % 16) (by kernel_rfl) (by kernel_rfl) (by omega) (by omega)) ?_
      refine J.head (.pointer (some ⟨b5, (((Int.tmod other 16) + 16) % 16).toNat, none⟩)) (by first | rfl | (rw [Nat.zero_add, Nat.mul_one])) ?_
      refine J.stBox S27 0 3 (((Int.tmod other 16) + 16) % 16).toNat (iv other) (mxC (rs.set ((((Int.tmod other 16) + 16) % 16).toNat) other) [.slice ra2 cs.length rc2]) [box b5 (mxC (rs.set ((((Int.tmod other 16) + 16) % 16).toNat) other) [.slice ra2 cs.length rc2]) 31, rowOf encI ra2 rc2 3 1 cs, box b4 (insC (p.gCode_l.getD (k).toNat ins0)) 48, box b3 (mxC (stR p n rs (cs) k) [.slice ra1 ((stC p n rs (cs) k).length) rc1]) 31, rowOf encI ra1 rc1 3 1 (stC p n rs (cs) k), box b2 (mxC rs [.slice la n c]) 31, box b1 (prgC p) 28] (by kernel_rfl) rfl (by kernel_rfl) (stV_mi other (by first | omega | (simp; omega))) rfl ?_
      intro w28 S28
      refine J.lb 3 [] [] [] S28 6 rfl 180 (.agg (prgA p)) ?_
      refine J.ok (OK.ldBox S28 0 181 31 0 (.agg (mxA (rs.set ((((Int.tmod other 16) + 16) % 16).toNat) other) [.slice ra2 cs.length rc2])) (by kernel_rfl) rfl (ldV_ma (n := 16) (by kernel_rfl) (by kernel_rfl) (by first | rfl | assumption | (simp only [List.length_set, List.length_replicate]; first | done | assumption)))) ?_
      have := rowOf_len (S28.nth 1 rfl)
      refine J.cf 1 [] [] [] 183 hb15 (step_any p (rs.set ((((Int.tmod other 16) + 16) % 16).toNat) other) ra2 cs.length rc2 cs k _ (by first | assumption | rfl | (simp only [List.length_set, List.length_replicate]; assumption) | exact List.length_replicate) (prgQ_sep hp S28) ((row1_ones (S28.nth 1 rfl) cs.length (by first | rfl | omega | simp))) (by omega)) ?_
      rintro _ w29 ⟨ra3, rc3, rfl, T4⟩
      have S29 : Sep w [rowOf encI ra3 rc3 3 1 (stC p cs.length (rs.set ((((Int.tmod other 16) + 16) % 16).toNat) other) (cs) k), box b5 (mxC (rs.set ((((Int.tmod other 16) + 16) % 16).toNat) other) [.slice ra2 cs.length rc2]) 31, rowOf encI ra2 rc2 3 1 cs, box b4 (insC (p.gCode_l.getD (k).toNat ins0)) 48, box b3 (mxC (stR p n rs (cs) k) [.slice ra1 ((stC p n rs (cs) k).length) rc1]) 31, rowOf encI ra1 rc1 3 1 (stC p n rs (cs) k), box b2 (mxC rs [.slice la n c]) 31, box b1 (prgC p) 28] w29 := S28.trans T4
      have := rowOf_len (S29.nth 2 rfl)
      have := stR_len (p := p) (n := cs.length) (cs := cs) (k := k) (show (rs.set ((((Int.tmod other 16) + 16) % 16).toNat) other).length = 16 from (by first | assumption | rfl | (simp only [List.length_set, List.length_replicate]; assumption) | exact List.length_replicate))
      obtain ⟨hl1, hl2, hl3⟩ := st_local (cs := cs) (x := other) (r := ((Int.tmod other 16) + 16) % 16) hst (show cs.length = n from hcl) hrs (by omega) (by omega) (by omega) (by omega) (by omega) hff
      refine J.r 4 [] [(186, iv (stE p cs.length (rs.set ((((Int.tmod other 16) + 16) % 16).toNat) other) k)), (185, iv (stN p cs.length (rs.set ((((Int.tmod other 16) + 16) % 16).toNat) other) k)), (184, .agg (mxA (stR p cs.length (rs.set ((((Int.tmod other 16) + 16) % 16).toNat) other) (cs) k) [.slice ra3 ((stC p cs.length (rs.set ((((Int.tmod other 16) + 16) % 16).toNat) other) (cs) k).length) rc3]))] [] ?_
      refine J.new S29 18 (mxC (List.replicate 16 (0 : Int)) [.slice none 0 0]) 31 (by kernel_rfl) ?_
      intro b6 w30 S30
      refine J.stBox S30 0 31 0 (.agg (mxA (stR p cs.length (rs.set ((((Int.tmod other 16) + 16) % 16).toNat) other) (cs) k) [.slice ra3 ((stC p cs.length (rs.set ((((Int.tmod other 16) + 16) % 16).toNat) other) (cs) k).length) rc3])) (mxC (stR p cs.length (rs.set ((((Int.tmod other 16) + 16) % 16).toNat) other) (cs) k) [.slice ra3 ((stC p cs.length (rs.set ((((Int.tmod other 16) + 16) % 16).toNat) other) (cs) k).length) rc3]) [box b6 (mxC (stR p cs.length (rs.set ((((Int.tmod other 16) + 16) % 16).toNat) other) (cs) k) [.slice ra3 ((stC p cs.length (rs.set ((((Int.tmod other 16) + 16) % 16).toNat) other) (cs) k).length) rc3]) 31, rowOf encI ra3 rc3 3 1 (stC p cs.length (rs.set ((((Int.tmod other 16) + 16) % 16).toNat) other) (cs) k), box b5 (mxC (rs.set ((((Int.tmod other 16) + 16) % 16).toNat) other) [.slice ra2 cs.length rc2]) 31, rowOf encI ra2 rc2 3 1 cs, box b4 (insC (p.gCode_l.getD (k).toNat ins0)) 48, box b3 (mxC (stR p n rs (cs) k) [.slice ra1 ((stC p n rs (cs) k).length) rc1]) 31, rowOf encI ra1 rc1 3 1 (stC p n rs (cs) k), box b2 (mxC rs [.slice la n c]) 31, box b1 (prgC p) 28] (by kernel_rfl) rfl (by rw [mx_size (n := 16) (k := 17) (by first | rfl | assumption | (simp only [List.length_set, List.length_replicate]; first | done | assumption)) rfl]; kernel_rfl) (stV_ma (n := 16) (by first | rfl | assumption | (simp only [List.length_set, List.length_replicate]; first | done | assumption)) (by first | rfl | assumption | (simp only [List.length_set, List.length_replicate]; first | done | assumption)) rfl rfl) rfl ?_
      intro w31 S31
      refine J.r 4 [] [(20, iv (stE p cs.length (rs.set ((((Int.tmod other 16) + 16) % 16).toNat) other) k))] [] ?_
      have fk32 : (stE p cs.length (rs.set ((((Int.tmod other 16) + 16) % 16).toNat) other) k) = 0 := hl1
      have fk33 : ((stR p cs.length (rs.set ((((Int.tmod other 16) + 16) % 16).toNat) other) (cs) k).getD (((p.gCode_l.getD (k).toNat ins0).gA).toNat) 0) = ((stR p n rs (cs) k).getD (((p.gCode_l.getD (k).toNat ins0).gA).toNat) 0) := hl2
      refine J.drawTail S31 20 Tryz.mixed (by kernel_rfl) (by kernel_rfl) ?_
      intro w32 S32
      refine SL.r 187 (iv (stE p cs.length (rs.set ((((Int.tmod other 16) + 16) % 16).toNat) other) k)) ?_
      refine SL.r 188 (.bool ((stE p cs.length (rs.set ((((Int.tmod other 16) + 16) % 16).toNat) other) k) == 0)) ?_
      refine SL.head (.bool true) (congrArg Value.bool (beq_iff_eq.2 fk32)) ?_
      refine SL.r 189 (.bool true) ?_
      refine SL.r 190 (.pointer (some ⟨b4, 1, none⟩)) ?_
      refine SL.lb S32 4 rfl 191 (iv ((p.gCode_l.getD (k).toNat ins0).gA)) ?_
      refine SL.r 192 (pv b6) ?_
      refine SL.ok (by decide) (OK.indexP 193 29 16 1 b6 0 (((p.gCode_l.getD (k).toNat ins0).gA).toNat) ((p.gCode_l.getD (k).toNat ins0).gA) (by kernel_rfl) (by kernel_rfl) (by omega) (by omega)) ?_
      refine SL.head (.pointer (some ⟨b6, ((p.gCode_l.getD (k).toNat ins0).gA).toNat, none⟩)) (by first | rfl | (rw [Nat.zero_add, Nat.mul_one])) ?_
      refine SL.ok (by decide) (OK.ldBox S32 0 194 3 ((p.gCode_l.getD (k).toNat ins0).gA).toNat (iv ((stR p cs.length (rs.set ((((Int.tmod other 16) + 16) % 16).toNat) other) (cs) k).getD (((p.gCode_l.getD (k).toNat ins0).gA).toNat) 0)) (by kernel_rfl) rfl (ldV_mi (by kernel_rfl) (by kernel_rfl) (by first | omega | (simp; omega)))) ?_
      refine SL.r 195 (.pointer (some ⟨b4, 1, none⟩)) ?_
      refine SL.lb S32 4 rfl 196 (iv ((p.gCode_l.getD (k).toNat ins0).gA)) ?_
      refine SL.r 197 (pv b3) ?_
      refine SL.ok (by decide) (OK.indexP 198 29 16 1 b3 0 (((p.gCode_l.getD (k).toNat ins0).gA).toNat) ((p.gCode_l.getD (k).toNat ins0).gA) (by kernel_rfl) (by kernel_rfl) (by omega) (by omega)) ?_
      refine SL.head (.pointer (some ⟨b3, ((p.gCode_l.getD (k).toNat ins0).gA).toNat, none⟩)) (by first | rfl | (rw [Nat.zero_add, Nat.mul_one])) ?_
      refine SL.ok (by decide) (OK.ldBox S32 5 199 3 ((p.gCode_l.getD (k).toNat ins0).gA).toNat (iv ((stR p n rs (cs) k).getD (((p.gCode_l.getD (k).toNat ins0).gA).toNat) 0)) (by kernel_rfl) rfl (ldV_mi (by kernel_rfl) (by kernel_rfl) (by first | omega | (simp; omega)))) ?_
      refine SL.r 200 (.bool (((stR p cs.length (rs.set ((((Int.tmod other 16) + 16) % 16).toNat) other) (cs) k).getD (((p.gCode_l.getD (k).toNat ins0).gA).toNat) 0) == ((stR p n rs (cs) k).getD (((p.gCode_l.getD (k).toNat ins0).gA).toNat) 0))) ?_
      refine SL.head (.bool true) (congrArg Value.bool (beq_iff_eq.2 fk33)) ?_
      refine SL.r 201 (.bool true) ?_
      refine SL.r 202 (.bool true) ?_
      refine SL.r 203 (.pointer (some ⟨b6, 16, none⟩)) ?_
      refine SL.ok (by decide) (OK.ldBox S32 0 204 26 16 (.slice ra3 ((stC p cs.length (rs.set ((((Int.tmod other 16) + 16) % 16).toNat) other) (cs) k).length) rc3) (by kernel_rfl) rfl (ldV_mt (n := 16) (by kernel_rfl) (by kernel_rfl) (by first | rfl | assumption | (simp only [List.length_set, List.length_replicate]; first | done | assumption)) (by decide) rfl)) ?_
      refine SL.r 205 (.pointer (some ⟨b3, 16, none⟩)) ?_
      refine SL.ok (by decide) (OK.ldBox S32 5 206 26 16 (.slice ra1 ((stC p n rs (cs) k).length) rc1) (by kernel_rfl) rfl (ldV_mt (n := 16) (by kernel_rfl) (by kernel_rfl) (by first | rfl | assumption | (simp only [List.length_set, List.length_replicate]; first | done | assumption)) (by decide) rfl)) ?_
      refine SL.done ?_
      have := rowOf_len (S32.nth 1 rfl)
      have := rowOf_len (S32.nth 6 rfl)
      refine TL.callF 207 13 #[.slice ra3 ((stC p cs.length (rs.set ((((Int.tmod other 16) + 16) % 16).toNat) other) (cs) k).length) rc3, .slice ra1 ((stC p n rs (cs) k).length) rc1] hb13 (by kernel_rfl) (eqints_any ra3 ((stC p cs.length (rs.set ((((Int.tmod other 16) + 16) % 16).toNat) other) (cs) k).length) rc3 (stC p cs.length (rs.set ((((Int.tmod other 16) + 16) % 16).toNat) other) (cs) k) ra1 ((stC p n rs (cs) k).length) rc1 (stC p n rs (cs) k) _ ((row1_ones (S32.nth 1 rfl) ((stC p cs.length (rs.set ((((Int.tmod other 16) + 16) % 16).toNat) other) (cs) k).length) (by first | rfl | omega | simp))) ((row1_ones (S32.nth 6 rfl) ((stC p n rs (cs) k).length) (by first | rfl | omega | simp))) (by first | omega | (simp; omega))) ?_
      rintro _ w33 ⟨rfl, T5⟩
      have S33 : Sep w [box b6 (mxC (stR p cs.length (rs.set ((((Int.tmod other 16) + 16) % 16).toNat) other) (cs) k) [.slice ra3 ((stC p cs.length (rs.set ((((Int.tmod other 16) + 16) % 16).toNat) other) (cs) k).length) rc3]) 31, rowOf encI ra3 rc3 3 1 (stC p cs.length (rs.set ((((Int.tmod other 16) + 16) % 16).toNat) other) (cs) k), box b5 (mxC (rs.set ((((Int.tmod other 16) + 16) % 16).toNat) other) [.slice ra2 cs.length rc2]) 31, rowOf encI ra2 rc2 3 1 cs, box b4 (insC (p.gCode_l.getD (k).toNat ins0)) 48, box b3 (mxC (stR p n rs (cs) k) [.slice ra1 ((stC p n rs (cs) k).length) rc1]) 31, rowOf encI ra1 rc1 3 1 (stC p n rs (cs) k), box b2 (mxC rs [.slice la n c]) 31, box b1 (prgC p) 28] w33 := S32.trans T5
      clear T5 S32
      refine TL.r 208 (.bool ((stC p cs.length (rs.set ((((Int.tmod other 16) + 16) % 16).toNat) other) (cs) k) == (stC p n rs (cs) k))) ?_
      refine TL.r 8 (.bool ((stC p cs.length (rs.set ((((Int.tmod other 16) + 16) % 16).toNat) other) (cs) k) == (stC p n rs (cs) k))) ?_
      refine TL.done (by kernel_rfl) ?_
      refine J.e 0 [.bool ((stC p cs.length (rs.set ((((Int.tmod other 16) + 16) % 16).toNat) other) (cs) k) == (stC p n rs (cs) k))] Tryz.func6 (hR _ _ ?_)
      have fk34 : ((stC p cs.length (rs.set ((((Int.tmod other 16) + 16) % 16).toNat) other) (cs) k) == (stC p n rs (cs) k)) = true := by rw [hl3]; exact beq_self_eq_true _
      exact ⟨congrArg Value.bool fk34, S33.nil⟩
     refine J.r 11 [false] [] [] ?_
     refine J.ok (OK.ldBox S15 3 173 31 0 (.agg (mxA rs [.slice la n c])) (by kernel_rfl) rfl (ldV_ma (n := 16) (by kernel_rfl) (by kernel_rfl) (by first | rfl | assumption | (simp only [List.length_set, List.length_replicate]; first | done | assumption)))) ?_
     refine J.cf 0 [] [] [] 174 hb14 (rcopy_any rs la n c cs _ (by first | assumption | rfl | (simp only [List.length_set, List.length_replicate]; assumption) | exact List.length_replicate) (hI.sep S15) (by omega)) ?_
     rintro _ w34 ⟨ra4, rc4, rfl, T6⟩
     have S34 : Sep w [rowOf encI ra4 rc4 3 1 cs, box b4 (insC (p.gCode_l.getD (k).toNat ins0)) 48, box b3 (mxC (stR p n rs (cs) k) [.slice ra1 ((stC p n rs (cs) k).length) rc1]) 31, rowOf encI ra1 rc1 3 1 (stC p n rs (cs) k), box b2 (mxC rs [.slice la n c]) 31, box b1 (prgC p) 28] w34 := S15.trans T6
     refine J.new S34 17 (mxC (List.replicate 16 (0 : Int)) [.slice none 0 0]) 31 (by kernel_rfl) ?_
     intro b7 w35 S35
     refine J.stBox S35 0 31 0 (.agg (mxA rs [.slice ra4 cs.length rc4])) (mxC rs [.slice ra4 cs.length rc4]) [box b7 (mxC rs [.slice ra4 cs.length rc4]) 31, rowOf encI ra4 rc4 3 1 cs, box b4 (insC (p.gCode_l.getD (k).toNat ins0)) 48, box b3 (mxC (stR p n rs (cs) k) [.slice ra1 ((stC p n rs (cs) k).length) rc1]) 31, rowOf encI ra1 rc1 3 1 (stC p n rs (cs) k), box b2 (mxC rs [.slice la n c]) 31, box b1 (prgC p) 28] (by kernel_rfl) rfl (by rw [mx_size (n := 16) (k := 17) (by first | rfl | assumption | (simp only [List.length_set, List.length_replicate]; first | done | assumption)) rfl]; kernel_rfl) (stV_ma (n := 16) (by first | rfl | assumption | (simp only [List.length_set, List.length_replicate]; first | done | assumption)) (by first | rfl | assumption | (simp only [List.length_set, List.length_replicate]; first | done | assumption)) rfl rfl) rfl ?_
     intro w36 S36
     refine J.r 6 [] [(177, pv b7), (176, iv other), (175, iv (((Int.tmod other 16) + 16) % 16))] [] ?_
     refine J.ok (OK.indexP 178 29 16 1 b7 0 ((((Int.tmod other 16) + 16) % 16).toNat) (((Int.tmod other 16) + 16) % 16) (by kernel_rfl) (by kernel_rfl) (by omega) (by omega)) ?_
     refine J.head (.pointer (some ⟨b7, (((Int.tmod other 16) + 16) % 16).toNat, none⟩)) (by first | rfl | (rw [Nat.zero_add, Nat.mul_one])) ?_
     refine J.stBox S36 0 3 (((Int.tmod other 16) + 16) % 16).toNat (iv other) (mxC (rs.set ((((Int.tmod other 16) + 16) % 16).toNat) other) [.slice ra4 cs.length rc4]) [box b7 (mxC (rs.set ((((Int.tmod other 16) + 16) % 16).toNat) other) [.slice ra4 cs.length rc4]) 31, rowOf encI ra4 rc4 3 1 cs, box b4 (insC (p.gCode_l.getD (k).toNat ins0)) 48, box b3 (mxC (stR p n rs (cs) k) [.slice ra1 ((stC p n rs (cs) k).length) rc1]) 31, rowOf encI ra1 rc1 3 1 (stC p n rs (cs) k), box b2 (mxC rs [.slice la n c]) 31, box b1 (prgC p) 28] (by kernel_rfl) rfl (by kernel_rfl) (stV_mi other (by first | omega | (simp; omega))) rfl ?_
     intro w37 S37
     refine J.lb 3 [] [] [] S37 6 rfl 180 (.agg (prgA p)) ?_
     refine J.ok (OK.ldBox S37 0 181 31 0 (.agg (mxA (rs.set ((((Int.tmod other 16) + 16) % 16).toNat) other) [.slice ra4 cs.length rc4])) (by kernel_rfl) rfl (ldV_ma (n := 16) (by kernel_rfl) (by kernel_rfl) (by first | rfl | assumption | (simp only [List.length_set, List.length_replicate]; first | done | assumption)))) ?_
     have := rowOf_len (S37.nth 1 rfl)
     refine J.cf 1 [] [] [] 183 hb15 (step_any p (rs.set ((((Int.tmod other 16) + 16) % 16).toNat) other) ra4 cs.length rc4 cs k _ (by first | assumption | rfl | (simp only [List.length_set, List.length_replicate]; assumption) | exact List.length_replicate) (prgQ_sep hp S37) ((row1_ones (S37.nth 1 rfl) cs.length (by first | rfl | omega | simp))) (by omega)) ?_
     rintro _ w38 ⟨ra5, rc5, rfl, T7⟩
     have S38 : Sep w [rowOf encI ra5 rc5 3 1 (stC p cs.length (rs.set ((((Int.tmod other 16) + 16) % 16).toNat) other) (cs) k), box b7 (mxC (rs.set ((((Int.tmod other 16) + 16) % 16).toNat) other) [.slice ra4 cs.length rc4]) 31, rowOf encI ra4 rc4 3 1 cs, box b4 (insC (p.gCode_l.getD (k).toNat ins0)) 48, box b3 (mxC (stR p n rs (cs) k) [.slice ra1 ((stC p n rs (cs) k).length) rc1]) 31, rowOf encI ra1 rc1 3 1 (stC p n rs (cs) k), box b2 (mxC rs [.slice la n c]) 31, box b1 (prgC p) 28] w38 := S37.trans T7
     have := rowOf_len (S38.nth 2 rfl)
     have := stR_len (p := p) (n := cs.length) (cs := cs) (k := k) (show (rs.set ((((Int.tmod other 16) + 16) % 16).toNat) other).length = 16 from (by first | assumption | rfl | (simp only [List.length_set, List.length_replicate]; assumption) | exact List.length_replicate))
     obtain ⟨hl1, hl2, hl3⟩ := st_local (cs := cs) (x := other) (r := ((Int.tmod other 16) + 16) % 16) hst (show cs.length = n from hcl) hrs (by omega) (by omega) (by omega) (by omega) (by omega) hff
     refine J.r 4 [] [(186, iv (stE p cs.length (rs.set ((((Int.tmod other 16) + 16) % 16).toNat) other) k)), (185, iv (stN p cs.length (rs.set ((((Int.tmod other 16) + 16) % 16).toNat) other) k)), (184, .agg (mxA (stR p cs.length (rs.set ((((Int.tmod other 16) + 16) % 16).toNat) other) (cs) k) [.slice ra5 ((stC p cs.length (rs.set ((((Int.tmod other 16) + 16) % 16).toNat) other) (cs) k).length) rc5]))] [] ?_
     refine J.new S38 18 (mxC (List.replicate 16 (0 : Int)) [.slice none 0 0]) 31 (by kernel_rfl) ?_
     intro b8 w39 S39
     refine J.stBox S39 0 31 0 (.agg (mxA (stR p cs.length (rs.set ((((Int.tmod other 16) + 16) % 16).toNat) other) (cs) k) [.slice ra5 ((stC p cs.length (rs.set ((((Int.tmod other 16) + 16) % 16).toNat) other) (cs) k).length) rc5])) (mxC (stR p cs.length (rs.set ((((Int.tmod other 16) + 16) % 16).toNat) other) (cs) k) [.slice ra5 ((stC p cs.length (rs.set ((((Int.tmod other 16) + 16) % 16).toNat) other) (cs) k).length) rc5]) [box b8 (mxC (stR p cs.length (rs.set ((((Int.tmod other 16) + 16) % 16).toNat) other) (cs) k) [.slice ra5 ((stC p cs.length (rs.set ((((Int.tmod other 16) + 16) % 16).toNat) other) (cs) k).length) rc5]) 31, rowOf encI ra5 rc5 3 1 (stC p cs.length (rs.set ((((Int.tmod other 16) + 16) % 16).toNat) other) (cs) k), box b7 (mxC (rs.set ((((Int.tmod other 16) + 16) % 16).toNat) other) [.slice ra4 cs.length rc4]) 31, rowOf encI ra4 rc4 3 1 cs, box b4 (insC (p.gCode_l.getD (k).toNat ins0)) 48, box b3 (mxC (stR p n rs (cs) k) [.slice ra1 ((stC p n rs (cs) k).length) rc1]) 31, rowOf encI ra1 rc1 3 1 (stC p n rs (cs) k), box b2 (mxC rs [.slice la n c]) 31, box b1 (prgC p) 28] (by kernel_rfl) rfl (by rw [mx_size (n := 16) (k := 17) (by first | rfl | assumption | (simp only [List.length_set, List.length_replicate]; first | done | assumption)) rfl]; kernel_rfl) (stV_ma (n := 16) (by first | rfl | assumption | (simp only [List.length_set, List.length_replicate]; first | done | assumption)) (by first | rfl | assumption | (simp only [List.length_set, List.length_replicate]; first | done | assumption)) rfl rfl) rfl ?_
     intro w40 S40
     refine J.r 4 [] [(20, iv (stE p cs.length (rs.set ((((Int.tmod other 16) + 16) % 16).toNat) other) k))] [] ?_
     have fk35 : (stE p cs.length (rs.set ((((Int.tmod other 16) + 16) % 16).toNat) other) k) = 0 := hl1
     have fk36 : ((stR p cs.length (rs.set ((((Int.tmod other 16) + 16) % 16).toNat) other) (cs) k).getD (((p.gCode_l.getD (k).toNat ins0).gA).toNat) 0) = ((stR p n rs (cs) k).getD (((p.gCode_l.getD (k).toNat ins0).gA).toNat) 0) := hl2
     refine J.drawTail S40 20 Tryz.mixed (by kernel_rfl) (by kernel_rfl) ?_
     intro w41 S41
     refine SL.r 187 (iv (stE p cs.length (rs.set ((((Int.tmod other 16) + 16) % 16).toNat) other) k)) ?_
     refine SL.r 188 (.bool ((stE p cs.length (rs.set ((((Int.tmod other 16) + 16) % 16).toNat) other) k) == 0)) ?_
     refine SL.head (.bool true) (congrArg Value.bool (beq_iff_eq.2 fk35)) ?_
     refine SL.r 189 (.bool true) ?_
     refine SL.r 190 (.pointer (some ⟨b4, 1, none⟩)) ?_
     refine SL.lb S41 4 rfl 191 (iv ((p.gCode_l.getD (k).toNat ins0).gA)) ?_
     refine SL.r 192 (pv b8) ?_
     refine SL.ok (by decide) (OK.indexP 193 29 16 1 b8 0 (((p.gCode_l.getD (k).toNat ins0).gA).toNat) ((p.gCode_l.getD (k).toNat ins0).gA) (by kernel_rfl) (by kernel_rfl) (by omega) (by omega)) ?_
     refine SL.head (.pointer (some ⟨b8, ((p.gCode_l.getD (k).toNat ins0).gA).toNat, none⟩)) (by first | rfl | (rw [Nat.zero_add, Nat.mul_one])) ?_
     refine SL.ok (by decide) (OK.ldBox S41 0 194 3 ((p.gCode_l.getD (k).toNat ins0).gA).toNat (iv ((stR p cs.length (rs.set ((((Int.tmod other 16) + 16) % 16).toNat) other) (cs) k).getD (((p.gCode_l.getD (k).toNat ins0).gA).toNat) 0)) (by kernel_rfl) rfl (ldV_mi (by kernel_rfl) (by kernel_rfl) (by first | omega | (simp; omega)))) ?_
     refine SL.r 195 (.pointer (some ⟨b4, 1, none⟩)) ?_
     refine SL.lb S41 4 rfl 196 (iv ((p.gCode_l.getD (k).toNat ins0).gA)) ?_
     refine SL.r 197 (pv b3) ?_
     refine SL.ok (by decide) (OK.indexP 198 29 16 1 b3 0 (((p.gCode_l.getD (k).toNat ins0).gA).toNat) ((p.gCode_l.getD (k).toNat ins0).gA) (by kernel_rfl) (by kernel_rfl) (by omega) (by omega)) ?_
     refine SL.head (.pointer (some ⟨b3, ((p.gCode_l.getD (k).toNat ins0).gA).toNat, none⟩)) (by first | rfl | (rw [Nat.zero_add, Nat.mul_one])) ?_
     refine SL.ok (by decide) (OK.ldBox S41 5 199 3 ((p.gCode_l.getD (k).toNat ins0).gA).toNat (iv ((stR p n rs (cs) k).getD (((p.gCode_l.getD (k).toNat ins0).gA).toNat) 0)) (by kernel_rfl) rfl (ldV_mi (by kernel_rfl) (by kernel_rfl) (by first | omega | (simp; omega)))) ?_
     refine SL.r 200 (.bool (((stR p cs.length (rs.set ((((Int.tmod other 16) + 16) % 16).toNat) other) (cs) k).getD (((p.gCode_l.getD (k).toNat ins0).gA).toNat) 0) == ((stR p n rs (cs) k).getD (((p.gCode_l.getD (k).toNat ins0).gA).toNat) 0))) ?_
     refine SL.head (.bool true) (congrArg Value.bool (beq_iff_eq.2 fk36)) ?_
     refine SL.r 201 (.bool true) ?_
     refine SL.r 202 (.bool true) ?_
     refine SL.r 203 (.pointer (some ⟨b8, 16, none⟩)) ?_
     refine SL.ok (by decide) (OK.ldBox S41 0 204 26 16 (.slice ra5 ((stC p cs.length (rs.set ((((Int.tmod other 16) + 16) % 16).toNat) other) (cs) k).length) rc5) (by kernel_rfl) rfl (ldV_mt (n := 16) (by kernel_rfl) (by kernel_rfl) (by first | rfl | assumption | (simp only [List.length_set, List.length_replicate]; first | done | assumption)) (by decide) rfl)) ?_
     refine SL.r 205 (.pointer (some ⟨b3, 16, none⟩)) ?_
     refine SL.ok (by decide) (OK.ldBox S41 5 206 26 16 (.slice ra1 ((stC p n rs (cs) k).length) rc1) (by kernel_rfl) rfl (ldV_mt (n := 16) (by kernel_rfl) (by kernel_rfl) (by first | rfl | assumption | (simp only [List.length_set, List.length_replicate]; first | done | assumption)) (by decide) rfl)) ?_
     refine SL.done ?_
     have := rowOf_len (S41.nth 1 rfl)
     have := rowOf_len (S41.nth 6 rfl)
     refine TL.callF 207 13 #[.slice ra5 ((stC p cs.length (rs.set ((((Int.tmod other 16) + 16) % 16).toNat) other) (cs) k).length) rc5, .slice ra1 ((stC p n rs (cs) k).length) rc1] hb13 (by kernel_rfl) (eqints_any ra5 ((stC p cs.length (rs.set ((((Int.tmod other 16) + 16) % 16).toNat) other) (cs) k).length) rc5 (stC p cs.length (rs.set ((((Int.tmod other 16) + 16) % 16).toNat) other) (cs) k) ra1 ((stC p n rs (cs) k).length) rc1 (stC p n rs (cs) k) _ ((row1_ones (S41.nth 1 rfl) ((stC p cs.length (rs.set ((((Int.tmod other 16) + 16) % 16).toNat) other) (cs) k).length) (by first | rfl | omega | simp))) ((row1_ones (S41.nth 6 rfl) ((stC p n rs (cs) k).length) (by first | rfl | omega | simp))) (by first | omega | (simp; omega))) ?_
     rintro _ w42 ⟨rfl, T8⟩
     have S42 : Sep w [box b8 (mxC (stR p cs.length (rs.set ((((Int.tmod other 16) + 16) % 16).toNat) other) (cs) k) [.slice ra5 ((stC p cs.length (rs.set ((((Int.tmod other 16) + 16) % 16).toNat) other) (cs) k).length) rc5]) 31, rowOf encI ra5 rc5 3 1 (stC p cs.length (rs.set ((((Int.tmod other 16) + 16) % 16).toNat) other) (cs) k), box b7 (mxC (rs.set ((((Int.tmod other 16) + 16) % 16).toNat) other) [.slice ra4 cs.length rc4]) 31, rowOf encI ra4 rc4 3 1 cs, box b4 (insC (p.gCode_l.getD (k).toNat ins0)) 48, box b3 (mxC (stR p n rs (cs) k) [.slice ra1 ((stC p n rs (cs) k).length) rc1]) 31, rowOf encI ra1 rc1 3 1 (stC p n rs (cs) k), box b2 (mxC rs [.slice la n c]) 31, box b1 (prgC p) 28] w42 := S41.trans T8
     clear T8 S41
     refine TL.r 208 (.bool ((stC p cs.length (rs.set ((((Int.tmod other 16) + 16) % 16).toNat) other) (cs) k) == (stC p n rs (cs) k))) ?_
     refine TL.r 8 (.bool ((stC p cs.length (rs.set ((((Int.tmod other 16) + 16) % 16).toNat) other) (cs) k) == (stC p n rs (cs) k))) ?_
     refine TL.done (by kernel_rfl) ?_
     refine J.e 0 [.bool ((stC p cs.length (rs.set ((((Int.tmod other 16) + 16) % 16).toNat) other) (cs) k) == (stC p n rs (cs) k))] Tryz.func6 (hR _ _ ?_)
     have fk37 : ((stC p cs.length (rs.set ((((Int.tmod other 16) + 16) % 16).toNat) other) (cs) k) == (stC p n rs (cs) k)) = true := by rw [hl3]; exact beq_self_eq_true _
     exact ⟨congrArg Value.bool fk37, S42.nil⟩
    exact J.t 5 (L6_2 _ 0 w11 (by omega) (by omega) S11 rfl)
   exact J.t 9 (L6_1 _ 0 w10 (by omega) (by omega) S10 rfl)
  refine J.e 5 [.bool false] Tryz.func6 (hR _ _ ?_)
  exfalso
  omega
 refine J.e 5 [.bool true] Tryz.func6 (hR _ _ ?_)
 exact ⟨rfl, S7.nil⟩

end
end Go.Proofs.YtaoolgcddapegaaGreatDoor

