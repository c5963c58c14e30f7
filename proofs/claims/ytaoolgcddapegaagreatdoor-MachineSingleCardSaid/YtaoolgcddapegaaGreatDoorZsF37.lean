/- Walks of functions of this seat, printed by a program over the engine. Conditions: as each theorem says. -/
import Derived.Test.YtaoolgcddapegaaGreatDoorZsF35
namespace Go.Proofs.YtaoolgcddapegaaGreatDoor
open Go.Eng Go.RowKit
set_option linter.unusedSimpArgs false
set_option linter.unusedVariables false
set_option maxRecDepth 20000
set_option maxHeartbeats 20000000
theorem hb66 : HasBody Tryz.prog 66 := fun _ _ => by kernel_rfl

theorem arith_any (p : Prg) (i : Ins) (x y : Int) (w : World) (hp : prgQ w p) (hi : insQ w i) (hv : validP p = true) (hf : fitsI p i = true) (htp : typedP i.gOp) : Ret Tryz.prog 66 #[.agg (prgA p), .agg (insA i), iv x, iv y] w (fun v w' => v = .tuple #[iv (arV i.gOp (tyA p i.gOp i.gK) (tyB p i.gOp i.gK) (tyC p i.gOp i.gK) x y), iv (arE i.gOp (tyB p i.gOp i.gK) y)] ∧ Sep w [] w') := by
 refine Ret.st (N := 119) Tryz.func66 fun R hR S0 => ?_
 obtain ⟨q1, q2, q3, q4, q5, q6, q7, q8, q9, q10, q11, q12, q13, q14, q15, q16, q17, q18, q19, q20, q21, q22, q23, q24, q25, _⟩ := id hp
 have ql1 := q2.len_eq
 have ql2 := q5.len_eq
 have ql3 := q8.len_eq
 have ql4 := q11.len_eq
 have ql5 := q15.len_eq
 have ql6 := q18.len_eq
 have ql7 := q21.len_eq
 have ql8 := q24.len_eq
 obtain ⟨q26, q27, q28, q29, q30, _⟩ := id hi
 have hfp := formB_iff.1 (fits_form hf).1
 have hlt : p.gTypes_l.length = p.gTypes_n := by omega
 obtain ⟨hfa, hfb, hfc, hun⟩ := ar_facts hv hlt hf htp (by omega)
 refine J.nw 2 [] [] [] S0 4 (prgC p) 28 fun b1 w1 S1 => ?_
 refine J.nw 0 [] [] [] S1 5 (insC i) 48 fun b2 w2 S2 => ?_
 refine J.lb 5 [] [] [] S2 1 rfl 23 (.agg (prgA p)) ?_
 refine J.lb 0 [] [] [] S2 0 rfl 24 (.agg (insA i)) ?_
 refine J.c0 0 [] [] [] S2 25 hb110 (types_any p i _ (prgQ_sep hp S2) (insQ_sep hi S2) (by omega)) fun w3 S3 => ?_
 obtain ⟨hty1a, hty1b, hty1c⟩ := ty_q (w := w) (op := (i).gOp) (k := (i).gK) q6
 refine J.nw 5 [] [(29, .bool (tyOK p (i).gOp (i).gK)), (28, .agg (fxdA (tyC p (i).gOp (i).gK))), (27, .agg (fxdA (tyB p (i).gOp (i).gK))), (26, .agg (fxdA (tyA p (i).gOp (i).gK)))] [] S3 10 [iv 0, .bool false, iv 0, iv 0, iv 0, iv 0, iv 0, iv 0, iv 0, iv 0] 75 fun b3 w4 S4 => ?_
 refine J.nw 0 [] [] [] S4 11 [iv 0, .bool false, iv 0, iv 0, iv 0, iv 0, iv 0, iv 0, iv 0, iv 0] 75 fun b4 w5 S5 => ?_
 refine J.nw 0 [] [] [] S5 12 [iv 0, .bool false, iv 0, iv 0, iv 0, iv 0, iv 0, iv 0, iv 0, iv 0] 75 fun b5 w6 S6 => ?_
 refine J.sb 0 [] [] [] S6 2 rfl (fxdC (tyA p (i).gOp (i).gK)) rfl fun w7 S7 => ?_
 refine J.sb 0 [] [] [] S7 1 rfl (fxdC (tyB p (i).gOp (i).gK)) rfl fun w8 S8 => ?_
 refine J.sb 0 [] [] [] S8 0 rfl (fxdC (tyC p (i).gOp (i).gK)) rfl fun w9 S9 => ?_
 refine J.lb 4 [] [] [] S9 2 rfl 30 (.agg (fxdA (tyA p (i).gOp (i).gK))) ?_
 refine J.c0 1 [] [] [] S9 32 hb111 (mvalue_any (tyA p (i).gOp (i).gK) x _ (fxdQ_sep hty1a S9)) fun w10 S10 => ?_
 refine J.nw 0 [] [] [] S10 14 [iv 0, .bool false, iv 0, iv 0, iv 0, iv 0, iv 0, iv 0, iv 0, iv 0, iv 0] 82 fun b6 w11 S11 => ?_
 refine J.sb 0 [] [] [] S11 0 rfl (vlL (tyA p (i).gOp (i).gK) (clampT (tyA p (i).gOp (i).gK) x)) rfl fun w12 S12 => ?_
 refine J.nw 3 [] [] [] S12 15 [iv 0, .bool false, iv 0, iv 0, iv 0, iv 0, iv 0, iv 0, iv 0, iv 0, iv 0] 82 fun b7 w13 S13 => ?_
 refine J.lb 9 [] [] [] S13 5 rfl 34 (iv i.gOp) ?_
 refine J.c 7 [] [] [] 100 (i.gOp = 9) (fun fk1 => ?_) fun fk1 => ?_
 ·skip
  refine J.lb 2 [true] [] [] S13 1 rfl 103 (.agg (vlA (tyA p (i).gOp (i).gK) (clampT (tyA p (i).gOp (i).gK) x))) ?_
  refine J.lb 0 [] [] [] S13 2 rfl 104 (.agg (fxdA (tyC p (i).gOp (i).gK))) ?_
  refine J.c0 0 [] [] [] S13 105 hb112 (fneg_any (tyA p (i).gOp (i).gK) (clampT (tyA p (i).gOp (i).gK) x) (tyC p (i).gOp (i).gK) _ (fxdQ_sep hty1a S13) hfa (clamp_bd _ _) (fxdQ_sep hty1c S13) (hfc (by omega)) (un_neg hun (by omega))) fun w14 S14 => ?_
  refine J.sb 3 [] [(107, iv 0)] [] S14 0 rfl (vlL (tyC p (i).gOp (i).gK) (resT (numF (tyA p (i).gOp (i).gK) (clampT (tyA p (i).gOp (i).gK) x) * (-1)) (tyA p (i).gOp (i).gK).gDen (tyC p (i).gOp (i).gK))) rfl fun w15 S15 => ?_
  refine J.lb 6 [] [(16, iv 0)] [] S15 0 rfl 117 (iv (resT (numF (tyA p (i).gOp (i).gK) (clampT (tyA p (i).gOp (i).gK) x) * (-1)) (tyA p (i).gOp (i).gK).gDen (tyC p (i).gOp (i).gK))) ?_
  refine J.e 4 [iv (resT (numF (tyA p (i).gOp (i).gK) (clampT (tyA p (i).gOp (i).gK) x) * (-1)) (tyA p (i).gOp (i).gK).gDen (tyC p (i).gOp (i).gK)), iv 0] Tryz.func66 (hR _ _ ?_)
  have e0 : arV i.gOp (tyA p i.gOp i.gK) (tyB p i.gOp i.gK) (tyC p i.gOp i.gK) x y = resT (numF (tyA p (i).gOp (i).gK) (clampT (tyA p (i).gOp (i).gK) x) * (-1)) (tyA p (i).gOp (i).gK).gDen (tyC p (i).gOp (i).gK) ∧ arE i.gOp (tyB p i.gOp i.gK) y = 0 := ar_neg (by omega)
  exact ⟨by rw [e0.1, e0.2]; rfl, S15.nil⟩
 refine J.c 6 [false] [] [] 108 (i.gOp = 10) (fun fk2 => ?_) fun fk2 => ?_
 ·skip
  refine J.lb 2 [true] [] [] S13 1 rfl 111 (.agg (vlA (tyA p (i).gOp (i).gK) (clampT (tyA p (i).gOp (i).gK) x))) ?_
  refine J.lb 0 [] [] [] S13 2 rfl 112 (.agg (fxdA (tyC p (i).gOp (i).gK))) ?_
  refine J.c0 0 [] [] [] S13 113 hb113 (fconv_any (tyA p (i).gOp (i).gK) (clampT (tyA p (i).gOp (i).gK) x) (tyC p (i).gOp (i).gK) _ (fxdQ_sep hty1a S13) hfa (clamp_bd _ _) (fxdQ_sep hty1c S13) (hfc (by omega)) (un_neg hun (by omega))) fun w16 S16 => ?_
  refine J.sb 3 [] [(115, iv 0)] [] S16 0 rfl (vlL (tyC p (i).gOp (i).gK) (resT (numF (tyA p (i).gOp (i).gK) (clampT (tyA p (i).gOp (i).gK) x) * 1) (tyA p (i).gOp (i).gK).gDen (tyC p (i).gOp (i).gK))) rfl fun w17 S17 => ?_
  refine J.lb 6 [] [(16, iv 0)] [] S17 0 rfl 117 (iv (resT (numF (tyA p (i).gOp (i).gK) (clampT (tyA p (i).gOp (i).gK) x) * 1) (tyA p (i).gOp (i).gK).gDen (tyC p (i).gOp (i).gK))) ?_
  refine J.e 4 [iv (resT (numF (tyA p (i).gOp (i).gK) (clampT (tyA p (i).gOp (i).gK) x) * 1) (tyA p (i).gOp (i).gK).gDen (tyC p (i).gOp (i).gK)), iv 0] Tryz.func66 (hR _ _ ?_)
  have e0 : arV i.gOp (tyA p i.gOp i.gK) (tyB p i.gOp i.gK) (tyC p i.gOp i.gK) x y = resT (numF (tyA p (i).gOp (i).gK) (clampT (tyA p (i).gOp (i).gK) x) * 1) (tyA p (i).gOp (i).gK).gDen (tyC p (i).gOp (i).gK) ∧ arE i.gOp (tyB p i.gOp i.gK) y = 0 := ar_conv (by omega)
  exact ⟨by rw [e0.1, e0.2]; rfl, S17.nil⟩
 refine J.lb 3 [false] [] [] S13 3 rfl 35 (.agg (fxdA (tyB p (i).gOp (i).gK))) ?_
 refine J.c0 1 [] [] [] S13 37 hb111 (mvalue_any (tyB p (i).gOp (i).gK) y _ (fxdQ_sep hty1b S13)) fun w18 S18 => ?_
 refine J.nw 0 [] [] [] S18 17 [iv 0, .bool false, iv 0, iv 0, iv 0, iv 0, iv 0, iv 0, iv 0, iv 0, iv 0] 82 fun b8 w19 S19 => ?_
 refine J.sb 0 [] [] [] S19 0 rfl (vlL (tyB p (i).gOp (i).gK) (clampT (tyB p (i).gOp (i).gK) y)) rfl fun w20 S20 => ?_
 refine J.lb 4 [] [] [] S20 6 rfl 39 (iv i.gOp) ?_
 refine J.c 7 [] [] [] 64 (i.gOp = 5) (fun fk3 => ?_) fun fk3 => ?_
 ·skip
  refine J.lb 2 [true] [] [] S20 2 rfl 67 (.agg (vlA (tyA p (i).gOp (i).gK) (clampT (tyA p (i).gOp (i).gK) x))) ?_
  refine J.lb 0 [] [] [] S20 0 rfl 68 (.agg (vlA (tyB p (i).gOp (i).gK) (clampT (tyB p (i).gOp (i).gK) y))) ?_
  refine J.lb 0 [] [] [] S20 3 rfl 69 (.agg (fxdA (tyC p (i).gOp (i).gK))) ?_
  refine J.c0 0 [] [] [] S20 70 hb114 (fop1_any (tyA p (i).gOp (i).gK) (clampT (tyA p (i).gOp (i).gK) x) (tyB p (i).gOp (i).gK) (clampT (tyB p (i).gOp (i).gK) y) (tyC p (i).gOp (i).gK) _ (fxdQ_sep hty1a S20) hfa (clamp_bd _ _) (fxdQ_sep hty1b S20) (hfb (by omega)) (clamp_bd _ _) (fxdQ_sep hty1c S20) (hfc (by omega)) (by have h_ := fit_of hun (by omega); rwa [show i.gOp - 4 = 1 by omega] at h_)) fun w21 S21 => ?_
  refine J.sb 3 [] [(72, iv (opE 1 (tyB p (i).gOp (i).gK) (clampT (tyB p (i).gOp (i).gK) y)))] [] S21 1 rfl (vlL (opTy 1 (tyB p (i).gOp (i).gK) (clampT (tyB p (i).gOp (i).gK) y) (tyC p (i).gOp (i).gK)) (fopW 1 (tyA p (i).gOp (i).gK) (clampT (tyA p (i).gOp (i).gK) x) (tyB p (i).gOp (i).gK) (clampT (tyB p (i).gOp (i).gK) y) (tyC p (i).gOp (i).gK))) rfl fun w22 S22 => ?_
  refine J.lb 7 [] [(16, iv (opE 1 (tyB p (i).gOp (i).gK) (clampT (tyB p (i).gOp (i).gK) y)))] [] S22 1 rfl 117 (iv (fopW 1 (tyA p (i).gOp (i).gK) (clampT (tyA p (i).gOp (i).gK) x) (tyB p (i).gOp (i).gK) (clampT (tyB p (i).gOp (i).gK) y) (tyC p (i).gOp (i).gK))) ?_
  refine J.e 4 [iv (fopW 1 (tyA p (i).gOp (i).gK) (clampT (tyA p (i).gOp (i).gK) x) (tyB p (i).gOp (i).gK) (clampT (tyB p (i).gOp (i).gK) y) (tyC p (i).gOp (i).gK)), iv (opE 1 (tyB p (i).gOp (i).gK) (clampT (tyB p (i).gOp (i).gK) y))] Tryz.func66 (hR _ _ ?_)
  have e0 : arV i.gOp (tyA p i.gOp i.gK) (tyB p i.gOp i.gK) (tyC p i.gOp i.gK) x y = fopW 1 (tyA p (i).gOp (i).gK) (clampT (tyA p (i).gOp (i).gK) x) (tyB p (i).gOp (i).gK) (clampT (tyB p (i).gOp (i).gK) y) (tyC p (i).gOp (i).gK) ∧ arE i.gOp (tyB p i.gOp i.gK) y = opE 1 (tyB p (i).gOp (i).gK) (clampT (tyB p (i).gOp (i).gK) y) := ar_op (k := 1) (by omega) (by omega)
  exact ⟨by rw [e0.1, e0.2]; rfl, S22.nil⟩
 refine J.c 6 [false] [] [] 73 (i.gOp = 6) (fun fk4 => ?_) fun fk4 => ?_
 ·skip
  refine J.lb 2 [true] [] [] S20 2 rfl 76 (.agg (vlA (tyA p (i).gOp (i).gK) (clampT (tyA p (i).gOp (i).gK) x))) ?_
  refine J.lb 0 [] [] [] S20 0 rfl 77 (.agg (vlA (tyB p (i).gOp (i).gK) (clampT (tyB p (i).gOp (i).gK) y))) ?_
  refine J.lb 0 [] [] [] S20 3 rfl 78 (.agg (fxdA (tyC p (i).gOp (i).gK))) ?_
  refine J.c0 0 [] [] [] S20 79 hb115 (fop2_any (tyA p (i).gOp (i).gK) (clampT (tyA p (i).gOp (i).gK) x) (tyB p (i).gOp (i).gK) (clampT (tyB p (i).gOp (i).gK) y) (tyC p (i).gOp (i).gK) _ (fxdQ_sep hty1a S20) hfa (clamp_bd _ _) (fxdQ_sep hty1b S20) (hfb (by omega)) (clamp_bd _ _) (fxdQ_sep hty1c S20) (hfc (by omega)) (by have h_ := fit_of hun (by omega); rwa [show i.gOp - 4 = 2 by omega] at h_)) fun w23 S23 => ?_
  refine J.sb 3 [] [(81, iv (opE 2 (tyB p (i).gOp (i).gK) (clampT (tyB p (i).gOp (i).gK) y)))] [] S23 1 rfl (vlL (opTy 2 (tyB p (i).gOp (i).gK) (clampT (tyB p (i).gOp (i).gK) y) (tyC p (i).gOp (i).gK)) (fopW 2 (tyA p (i).gOp (i).gK) (clampT (tyA p (i).gOp (i).gK) x) (tyB p (i).gOp (i).gK) (clampT (tyB p (i).gOp (i).gK) y) (tyC p (i).gOp (i).gK))) rfl fun w24 S24 => ?_
  refine J.lb 7 [] [(16, iv (opE 2 (tyB p (i).gOp (i).gK) (clampT (tyB p (i).gOp (i).gK) y)))] [] S24 1 rfl 117 (iv (fopW 2 (tyA p (i).gOp (i).gK) (clampT (tyA p (i).gOp (i).gK) x) (tyB p (i).gOp (i).gK) (clampT (tyB p (i).gOp (i).gK) y) (tyC p (i).gOp (i).gK))) ?_
  refine J.e 4 [iv (fopW 2 (tyA p (i).gOp (i).gK) (clampT (tyA p (i).gOp (i).gK) x) (tyB p (i).gOp (i).gK) (clampT (tyB p (i).gOp (i).gK) y) (tyC p (i).gOp (i).gK)), iv (opE 2 (tyB p (i).gOp (i).gK) (clampT (tyB p (i).gOp (i).gK) y))] Tryz.func66 (hR _ _ ?_)
  have e0 : arV i.gOp (tyA p i.gOp i.gK) (tyB p i.gOp i.gK) (tyC p i.gOp i.gK) x y = fopW 2 (tyA p (i).gOp (i).gK) (clampT (tyA p (i).gOp (i).gK) x) (tyB p (i).gOp (i).gK) (clampT (tyB p (i).gOp (i).gK) y) (tyC p (i).gOp (i).gK) ∧ arE i.gOp (tyB p i.gOp i.gK) y = opE 2 (tyB p (i).gOp (i).gK) (clampT (tyB p (i).gOp (i).gK) y) := ar_op (k := 2) (by omega) (by omega)
  exact ⟨by rw [e0.1, e0.2]; rfl, S24.nil⟩
 refine J.c 6 [false] [] [] 82 (i.gOp = 7) (fun fk5 => ?_) fun fk5 => ?_
 ·skip
  refine J.lb 2 [true] [] [] S20 2 rfl 85 (.agg (vlA (tyA p (i).gOp (i).gK) (clampT (tyA p (i).gOp (i).gK) x))) ?_
  refine J.lb 0 [] [] [] S20 0 rfl 86 (.agg (vlA (tyB p (i).gOp (i).gK) (clampT (tyB p (i).gOp (i).gK) y))) ?_
  refine J.lb 0 [] [] [] S20 3 rfl 87 (.agg (fxdA (tyC p (i).gOp (i).gK))) ?_
  refine J.c0 0 [] [] [] S20 88 hb116 (fop3_any (tyA p (i).gOp (i).gK) (clampT (tyA p (i).gOp (i).gK) x) (tyB p (i).gOp (i).gK) (clampT (tyB p (i).gOp (i).gK) y) (tyC p (i).gOp (i).gK) _ (fxdQ_sep hty1a S20) hfa (clamp_bd _ _) (fxdQ_sep hty1b S20) (hfb (by omega)) (clamp_bd _ _) (fxdQ_sep hty1c S20) (hfc (by omega)) (by have h_ := fit_of hun (by omega); rwa [show i.gOp - 4 = 3 by omega] at h_)) fun w25 S25 => ?_
  refine J.sb 3 [] [(90, iv (opE 3 (tyB p (i).gOp (i).gK) (clampT (tyB p (i).gOp (i).gK) y)))] [] S25 1 rfl (vlL (opTy 3 (tyB p (i).gOp (i).gK) (clampT (tyB p (i).gOp (i).gK) y) (tyC p (i).gOp (i).gK)) (fopW 3 (tyA p (i).gOp (i).gK) (clampT (tyA p (i).gOp (i).gK) x) (tyB p (i).gOp (i).gK) (clampT (tyB p (i).gOp (i).gK) y) (tyC p (i).gOp (i).gK))) rfl fun w26 S26 => ?_
  refine J.lb 7 [] [(16, iv (opE 3 (tyB p (i).gOp (i).gK) (clampT (tyB p (i).gOp (i).gK) y)))] [] S26 1 rfl 117 (iv (fopW 3 (tyA p (i).gOp (i).gK) (clampT (tyA p (i).gOp (i).gK) x) (tyB p (i).gOp (i).gK) (clampT (tyB p (i).gOp (i).gK) y) (tyC p (i).gOp (i).gK))) ?_
  refine J.e 4 [iv (fopW 3 (tyA p (i).gOp (i).gK) (clampT (tyA p (i).gOp (i).gK) x) (tyB p (i).gOp (i).gK) (clampT (tyB p (i).gOp (i).gK) y) (tyC p (i).gOp (i).gK)), iv (opE 3 (tyB p (i).gOp (i).gK) (clampT (tyB p (i).gOp (i).gK) y))] Tryz.func66 (hR _ _ ?_)
  have e0 : arV i.gOp (tyA p i.gOp i.gK) (tyB p i.gOp i.gK) (tyC p i.gOp i.gK) x y = fopW 3 (tyA p (i).gOp (i).gK) (clampT (tyA p (i).gOp (i).gK) x) (tyB p (i).gOp (i).gK) (clampT (tyB p (i).gOp (i).gK) y) (tyC p (i).gOp (i).gK) ∧ arE i.gOp (tyB p i.gOp i.gK) y = opE 3 (tyB p (i).gOp (i).gK) (clampT (tyB p (i).gOp (i).gK) y) := ar_op (k := 3) (by omega) (by omega)
  exact ⟨by rw [e0.1, e0.2]; rfl, S26.nil⟩
 refine J.c 6 [false] [] [] 91 (i.gOp = 8) (fun fk6 => ?_) fun fk6 => ?_
 ·skip
  refine J.lb 2 [true] [] [] S20 2 rfl 94 (.agg (vlA (tyA p (i).gOp (i).gK) (clampT (tyA p (i).gOp (i).gK) x))) ?_
  refine J.lb 0 [] [] [] S20 0 rfl 95 (.agg (vlA (tyB p (i).gOp (i).gK) (clampT (tyB p (i).gOp (i).gK) y))) ?_
  refine J.lb 0 [] [] [] S20 3 rfl 96 (.agg (fxdA (tyC p (i).gOp (i).gK))) ?_
  refine J.c0 0 [] [] [] S20 97 hb117 (fop4_any (tyA p (i).gOp (i).gK) (clampT (tyA p (i).gOp (i).gK) x) (tyB p (i).gOp (i).gK) (clampT (tyB p (i).gOp (i).gK) y) (tyC p (i).gOp (i).gK) _ (fxdQ_sep hty1a S20) hfa (clamp_bd _ _) (fxdQ_sep hty1b S20) (hfb (by omega)) (clamp_bd _ _) (fxdQ_sep hty1c S20) (hfc (by omega)) (by have h_ := fit_of hun (by omega); rwa [show i.gOp - 4 = 4 by omega] at h_)) fun w27 S27 => ?_
  refine J.sb 3 [] [(99, iv (opE 4 (tyB p (i).gOp (i).gK) (clampT (tyB p (i).gOp (i).gK) y)))] [] S27 1 rfl (vlL (opTy 4 (tyB p (i).gOp (i).gK) (clampT (tyB p (i).gOp (i).gK) y) (tyC p (i).gOp (i).gK)) (fopW 4 (tyA p (i).gOp (i).gK) (clampT (tyA p (i).gOp (i).gK) x) (tyB p (i).gOp (i).gK) (clampT (tyB p (i).gOp (i).gK) y) (tyC p (i).gOp (i).gK))) rfl fun w28 S28 => ?_
  refine J.lb 7 [] [(16, iv (opE 4 (tyB p (i).gOp (i).gK) (clampT (tyB p (i).gOp (i).gK) y)))] [] S28 1 rfl 117 (iv (fopW 4 (tyA p (i).gOp (i).gK) (clampT (tyA p (i).gOp (i).gK) x) (tyB p (i).gOp (i).gK) (clampT (tyB p (i).gOp (i).gK) y) (tyC p (i).gOp (i).gK))) ?_
  refine J.e 4 [iv (fopW 4 (tyA p (i).gOp (i).gK) (clampT (tyA p (i).gOp (i).gK) x) (tyB p (i).gOp (i).gK) (clampT (tyB p (i).gOp (i).gK) y) (tyC p (i).gOp (i).gK)), iv (opE 4 (tyB p (i).gOp (i).gK) (clampT (tyB p (i).gOp (i).gK) y))] Tryz.func66 (hR _ _ ?_)
  have e0 : arV i.gOp (tyA p i.gOp i.gK) (tyB p i.gOp i.gK) (tyC p i.gOp i.gK) x y = fopW 4 (tyA p (i).gOp (i).gK) (clampT (tyA p (i).gOp (i).gK) x) (tyB p (i).gOp (i).gK) (clampT (tyB p (i).gOp (i).gK) y) (tyC p (i).gOp (i).gK) ∧ arE i.gOp (tyB p i.gOp i.gK) y = opE 4 (tyB p (i).gOp (i).gK) (clampT (tyB p (i).gOp (i).gK) y) := ar_op (k := 4) (by omega) (by omega)
  exact ⟨by rw [e0.1, e0.2]; rfl, S28.nil⟩
 refine J.lb 3 [false] [] [] S20 2 rfl 41 (.agg (vlA (tyA p (i).gOp (i).gK) (clampT (tyA p (i).gOp (i).gK) x))) ?_
 refine J.lb 0 [] [] [] S20 0 rfl 42 (.agg (vlA (tyB p (i).gOp (i).gK) (clampT (tyB p (i).gOp (i).gK) y))) ?_
 refine J.c0 0 [] [] [] S20 43 hb118 (fless_any (tyA p (i).gOp (i).gK) (clampT (tyA p (i).gOp (i).gK) x) (tyB p (i).gOp (i).gK) (clampT (tyB p (i).gOp (i).gK) y) _ (fxdQ_sep hty1a S20) hfa (clamp_bd _ _) (fxdQ_sep hty1b S20) (hfb (by omega)) (clamp_bd _ _) (un_cmp hun (by omega))) fun w29 S29 => ?_
 refine J.lb 8 [] [(18, .bool (!decide (numF (tyB p (i).gOp (i).gK) (clampT (tyB p (i).gOp (i).gK) y) * (tyA p (i).gOp (i).gK).gDen ≤ numF (tyA p (i).gOp (i).gK) (clampT (tyA p (i).gOp (i).gK) x) * (tyB p (i).gOp (i).gK).gDen)))] [] S29 0 rfl 47 (.agg (vlA (tyB p (i).gOp (i).gK) (clampT (tyB p (i).gOp (i).gK) y))) ?_
 refine J.lb 0 [] [] [] S29 2 rfl 48 (.agg (vlA (tyA p (i).gOp (i).gK) (clampT (tyA p (i).gOp (i).gK) x))) ?_
 refine J.c0 0 [] [] [] S29 49 hb118 (fless_any (tyB p (i).gOp (i).gK) (clampT (tyB p (i).gOp (i).gK) y) (tyA p (i).gOp (i).gK) (clampT (tyA p (i).gOp (i).gK) x) _ (fxdQ_sep hty1b S29) (hfb (by omega)) (clamp_bd _ _) (fxdQ_sep hty1a S29) hfa (clamp_bd _ _) (unEq_symm (un_cmp hun (by omega)))) fun w30 S30 => ?_
 refine J.lb 10 [] [(20, .bool (!decide (numF (tyA p (i).gOp (i).gK) (clampT (tyA p (i).gOp (i).gK) x) * (tyB p (i).gOp (i).gK).gDen ≤ numF (tyB p (i).gOp (i).gK) (clampT (tyB p (i).gOp (i).gK) y) * (tyA p (i).gOp (i).gK).gDen)))] [] S30 6 rfl 53 (iv i.gOp) ?_
 refine J.c 2 [] [] [] 54 (i.gOp = 13) (fun fk7 => ?_) fun fk7 => ?_
 ·skip
  refine J.c0 4 [true] [] [] S30 56 hb62 (truth_any (!decide (numF (tyB p (i).gOp (i).gK) (clampT (tyB p (i).gOp (i).gK) y) * (tyA p (i).gOp (i).gK).gDen ≤ numF (tyA p (i).gOp (i).gK) (clampT (tyA p (i).gOp (i).gK) x) * (tyB p (i).gOp (i).gK).gDen)) _) fun w31 S31 => ?_
  refine J.e 3 [iv (tr01 (!decide (numF (tyB p (i).gOp (i).gK) (clampT (tyB p (i).gOp (i).gK) y) * (tyA p (i).gOp (i).gK).gDen ≤ numF (tyA p (i).gOp (i).gK) (clampT (tyA p (i).gOp (i).gK) x) * (tyB p (i).gOp (i).gK).gDen))), iv 0] Tryz.func66 (hR _ _ ?_)
  have e0 : arV i.gOp (tyA p i.gOp i.gK) (tyB p i.gOp i.gK) (tyC p i.gOp i.gK) x y = tr01 (!decide (numF (tyB p (i).gOp (i).gK) (clampT (tyB p (i).gOp (i).gK) y) * (tyA p (i).gOp (i).gK).gDen ≤ numF (tyA p (i).gOp (i).gK) (clampT (tyA p (i).gOp (i).gK) x) * (tyB p (i).gOp (i).gK).gDen)) ∧ arE i.gOp (tyB p i.gOp i.gK) y = 0 := ar_less (by omega)
  exact ⟨by rw [e0.1, e0.2]; rfl, S31.nil⟩
 refine J.bn 7 [false] [] [] 59 (!decide (numF (tyB p (i).gOp (i).gK) (clampT (tyB p (i).gOp (i).gK) y) * (tyA p (i).gOp (i).gK).gDen ≤ numF (tyA p (i).gOp (i).gK) (clampT (tyA p (i).gOp (i).gK) x) * (tyB p (i).gOp (i).gK).gDen)) (fun fk8 => ?_) fun fk8 => ?_
 ·skip
  refine J.c0 3 [] [] [] S30 63 hb62 (truth_any false _) fun w32 S32 => ?_
  refine J.e 3 [iv (tr01 false), iv 0] Tryz.func66 (hR _ _ ?_)
  have e0 : arV i.gOp (tyA p i.gOp i.gK) (tyB p i.gOp i.gK) (tyC p i.gOp i.gK) x y = tr01 false ∧ arE i.gOp (tyB p i.gOp i.gK) y = 0 := ar_eq (b := false) (by omega) (by have h_ := fk8; simp at h_ ⊢; omega)
  exact ⟨by rw [e0.1, e0.2]; rfl, S32.nil⟩
 refine J.c0 3 [] [] [] S30 63 hb62 (truth_any (!(!decide (numF (tyA p (i).gOp (i).gK) (clampT (tyA p (i).gOp (i).gK) x) * (tyB p (i).gOp (i).gK).gDen ≤ numF (tyB p (i).gOp (i).gK) (clampT (tyB p (i).gOp (i).gK) y) * (tyA p (i).gOp (i).gK).gDen))) _) fun w33 S33 => ?_
 refine J.e 3 [iv (tr01 (!(!decide (numF (tyA p (i).gOp (i).gK) (clampT (tyA p (i).gOp (i).gK) x) * (tyB p (i).gOp (i).gK).gDen ≤ numF (tyB p (i).gOp (i).gK) (clampT (tyB p (i).gOp (i).gK) y) * (tyA p (i).gOp (i).gK).gDen)))), iv 0] Tryz.func66 (hR _ _ ?_)
 have e0 : arV i.gOp (tyA p i.gOp i.gK) (tyB p i.gOp i.gK) (tyC p i.gOp i.gK) x y = tr01 (!(!decide (numF (tyA p (i).gOp (i).gK) (clampT (tyA p (i).gOp (i).gK) x) * (tyB p (i).gOp (i).gK).gDen ≤ numF (tyB p (i).gOp (i).gK) (clampT (tyB p (i).gOp (i).gK) y) * (tyA p (i).gOp (i).gK).gDen))) ∧ arE i.gOp (tyB p i.gOp i.gK) y = 0 := ar_eq (b := !(!decide (numF (tyA p (i).gOp (i).gK) (clampT (tyA p (i).gOp (i).gK) x) * (tyB p (i).gOp (i).gK).gDen ≤ numF (tyB p (i).gOp (i).gK) (clampT (tyB p (i).gOp (i).gK) y) * (tyA p (i).gOp (i).gK).gDen))) (by omega) (by have h_ := fk8; simp at h_ ⊢; omega)
 exact ⟨by rw [e0.1, e0.2]; rfl, S33.nil⟩

end Go.Proofs.YtaoolgcddapegaaGreatDoor

namespace Go.Proofs.YtaoolgcddapegaaGreatDoor
noncomputable section
open Go.Eng Go.RowKit
set_option linter.unusedSimpArgs false
set_option linter.unusedVariables false
set_option maxRecDepth 20000
set_option maxHeartbeats 20000000
theorem hb65 : HasBody Tryz.prog 65 := fun _ _ => by kernel_rfl
def K65_0 := adv 8 [] (rRest (adv 6 [] (bodyOf Tryz.f65)))
def K65_1 := List.drop 1 (adv 6 [] (rRest (adv 8 [] (rRest (adv 6 [] (bodyOf Tryz.f65))))))
theorem lag_any (bm : Nat) (rs : List Int) (ra : Option Addr) (n rc : Nat) (cs : List Int) (i : Ins) (x : Int) (w0 : World) (L0 : List Eng.Claim) (w : World) (S0 : Sep w0 (box bm (mxC rs [.slice ra n rc]) 31 :: rowOf encI ra rc 3 1 cs :: L0) w) (hrs : rs.length = 16) (hn : cs.length = n) (hi : insQ w0 i) (hk : 0 ≤ i.gK ∧ i.gK ≤ 32767 ∧ i.gK % 32 ≤ 20 ∧ i.gK / 32 + 1 < (n : Int)) : Ret Tryz.prog 65 #[pv bm, .agg (insA i), iv x] w (fun v w' => v = iv (lgY i cs x) ∧ Sep w0 (box bm (mxC rs [.slice ra n rc]) 31 :: rowOf encI ra rc 3 1 (lgC i cs x) :: L0) w') := by
 refine Ret.st (N := 70) Tryz.func65 fun R hR _ => ?_
 obtain ⟨q1, q2, q3, q4, q5, _⟩ := id hi
 refine J.nw 2 [] [] [] S0 4 (insC i) 48 fun b1 w1 S1 => ?_
 refine J.r 3 [] [] [] ?_
 refine J.drawStill S1 8 Tryz.mixed (by kernel_rfl) (by kernel_rfl) (by kernel_rfl) ?_
 intro w2 S2
 refine SL.r 11 (.pointer (some ⟨b1, 4, none⟩)) ?_
 refine SL.lb S2 0 rfl 12 (iv i.gK) ?_
 refine SL.r 13 (iv (Int.fdiv i.gK (2 ^ 5))) ?_
 refine SL.head (iv (i.gK / 32)) (congrArg (Value.int .i64) (shr_lit _ _ (by decide))) ?_
 refine SL.r 14 (.pointer (some ⟨b1, 4, none⟩)) ?_
 refine SL.lb S2 0 rfl 15 (iv i.gK) ?_
 refine SL.r 16 (iv (IntKind.wrap .i64 ((BitVec.ofInt 64 i.gK &&& (BitVec.ofInt 64 (31 : Int))).toNat : Int))) ?_
 refine SL.head (iv (i.gK % 32)) (congrArg (Value.int .i64) (and_mask_i64 5 _ _ (by rfl) (by decide))) ?_
 refine SL.r 7 (iv (i.gK / 32)) ?_
 refine SL.r 8 (iv (i.gK % 32)) ?_
 refine SL.done ?_
 refine TL.done (by kernel_rfl) ?_
 refine J.h 4 [] [] [] 18 (iv (if (-1099511627776) > x then (-1099511627776) else x)) (iv (max x (-1099511627776))) (congrArg (Value.int .i64) (by omega)) ?_
 refine J.h 1 [] [] [] 19 (iv (if 1099511627776 < (max x (-1099511627776)) then 1099511627776 else (max x (-1099511627776)))) (iv (min (max x (-1099511627776)) 1099511627776)) (congrArg (Value.int .i64) (by omega)) ?_
 refine J.r 3 [] [(2, iv (min (max x (-1099511627776)) 1099511627776))] [] ?_
 obtain ⟨p1, hp1⟩ := row1_addr (S2.nth 2 rfl) (show 0 < (cs).length by first | omega | (simp; omega))
 obtain ⟨p2, hp2⟩ := row1_addr (S2.nth 2 rfl) (show 0 < (cs).length by first | omega | (simp; omega))
 have W1 : ∀ (bd22 : Nat) (w3 : World), Sep w0 (box bd22 [iv (lagP (cs.getD (i.gK / 32).toNat 0) (cs.getD ((i.gK / 32) + 1).toNat 0) (min (max x (-1099511627776)) 1099511627776) (i.gK % 32)), iv (lagQ (cs.getD (i.gK / 32).toNat 0) (cs.getD ((i.gK / 32) + 1).toNat 0) (min (max x (-1099511627776)) 1099511627776) (i.gK % 32))] 97 :: box b1 (insC i) 48 :: box bm (mxC rs [.slice ra n rc]) 31 :: rowOf encI ra rc 3 1 cs :: L0) w3 → WA Tryz.prog 65 70 R K65_0 (fun w_ => Sep w0 (box b1 (insC i) 48 :: box bm (mxC rs [.slice ra n rc]) 31 :: rowOf encI ra rc 3 1 cs :: L0) w_) 0 #[true, true, true, true, true, true, true, true, true, true, true, true, true, true, true, true, true, true, true, true, true, true, true, true, true] [(0, pv bm), (2, iv (min (max x (-1099511627776)) 1099511627776)), (7, iv (i.gK / 32)), (8, iv (i.gK % 32)), (9, pv bd22), (10, iv (lagE (cs.getD (i.gK / 32).toNat 0) (cs.getD ((i.gK / 32) + 1).toNat 0) (i.gK % 32)))] w3 := by
  intro bd22 w3 S3
  refine WA.done (by kernel_rfl) ?_
  have X1 : ∀ (Y : Int) (Q : Int) (w4 : World), (Y = lgY i cs x) → (Q = lgR i cs x) → Sep w0 (box bd22 [iv Y, iv Q] 97 :: box b1 (insC i) 48 :: box bm (mxC rs [.slice ra n rc]) 31 :: rowOf encI ra rc 3 1 cs :: L0) w4 → J Tryz.prog 65 70 R K65_1 [(0, pv bm), (7, iv (i.gK / 32)), (9, pv bd22)] w4 := by
   intro Y Q w4 hY hQ S4
   refine J.r 1 [] [] [] ?_
   refine J.drawPlan (fun w_ => Sep w0 (box bd22 [iv Y, iv Q] 97 :: box b1 (insC i) 48 :: box bm (mxC rs [.slice ra n rc]) 31 :: L0) w_) [(0, true), (1, true), (2, true), (3, true), (4, true), (5, true), (6, true), (7, true), (8, true), (9, true), (10, true), (11, true), (12, true), (13, true), (14, true), (15, true), (16, false), (17, true), (18, false)] S4 Tryz.mixed (by kernel_rfl) (planOK_of (T := [(0, some 51, 1), (1, some 52, 2251799813685248), (2, some 53, 4503599627370496), (4, some 54, 9007199254740992), (0, some 55, 128), (0, some 56, 1), (32, some 57, 72057594037927936), (64, some 58, 144115188075855872), (128, some 59, 288230376151711744), (0, some 60, 128), (512, some 61, 1152921504606846976), (0, some 62, 512), (2048, some 63, 4611686018427387904), (0, some 64, 512), (8192, some 65, 18446744073709551616), (6431, some 66, 54043195528445952), (39199, none, 83010348331692982272), (131071, some 67, 2882303761517117440), (262143, none, 184467440737095516160)]) (by kernel_rfl) (by kernel_rfl)) ?_
   intro w5 S5
   refine PB.mk (S5.erase 3) ?_
   refine PL.take 0 51 (pv bm) (fun _ _ => by kernel_rfl) ?_
   refine PL.take 1 52 (pv bm) (fun _ _ => by kernel_rfl) ?_
   refine PL.take 2 53 (.pointer (some ⟨bm, 16, none⟩)) (fun _ _ => by kernel_rfl) ?_
   refine PL.takeOK 3 (fun w_ S_ => OK.ldMt S_ 2 rfl 54 26 16 (by assumption)) rfl ?_
   refine PL.take 4 55 (iv (i.gK / 32)) (fun _ _ => by kernel_rfl) ?_
   refine PL.take 5 56 (pv bm) (fun _ _ => by kernel_rfl) ?_
   refine PL.take 6 57 (pv bm) (fun _ _ => by kernel_rfl) ?_
   refine PL.take 7 58 (.pointer (some ⟨bm, 16, none⟩)) (fun _ _ => by kernel_rfl) ?_
   refine PL.takeOK 8 (fun w_ S_ => OK.ldMt S_ 2 rfl 59 26 16 (by assumption)) rfl ?_
   refine PL.take 9 60 (iv (i.gK / 32)) (fun _ _ => by kernel_rfl) ?_
   refine PL.take 10 61 (iv (IntKind.wrap .i64 ((i.gK / 32) + 1))) (fun _ _ => by kernel_rfl) ?_
   refine PL.head (iv ((i.gK / 32) + 1)) (congrArg (Value.int .i64) (IntWalk.i64_in _ (by omega))) ?_
   refine PL.take 11 62 (pv bd22) (fun _ _ => by kernel_rfl) ?_
   refine PL.takeOK 12 (fun w_ S_ => OK.ldBox S_ 0 63 3 0 (iv Y) (by kernel_rfl) rfl (by kernel_rfl)) rfl ?_
   refine PL.take 13 64 (.pointer (some ⟨bd22, 1, none⟩)) (fun _ _ => by kernel_rfl) ?_
   refine PL.takeOK 14 (fun w_ S_ => OK.ldBox S_ 0 65 3 1 (iv Q) (by kernel_rfl) rfl (by kernel_rfl)) rfl ?_
   refine PL.takeOK 15 (fun w_ S_ => OK.index 66 26 1 ra p1 n (i.gK / 32).toNat (i.gK / 32) (p1.add (i.gK / 32).toNat) (by kernel_rfl) (by kernel_rfl) hp1 (by omega) (by first | omega | (simp; omega)) (by rw [Nat.mul_one])) rfl ?_
   refine PL.stRow1 (Value.int .i64) (int_one _) S5 3 cs 3 p1 (i.gK / 32).toNat Y rfl (by kernel_rfl) hp1 (by first | omega | (simp; omega)) (by kernel_rfl) ?_
   intro w6 S6
   replace S6 : Sep w0 (box bd22 [iv Y, iv Q] 97 :: box b1 (insC i) 48 :: box bm (mxC rs [.slice ra n rc]) 31 :: rowOf encI ra rc 3 1 (cs.set (i.gK / 32).toNat Y) :: L0) w6 := S6
   refine PB.mk (S6.erase 3) ?_
   refine PL.takeOK 17 (fun w_ S_ => OK.index 67 26 1 ra p2 n ((i.gK / 32) + 1).toNat ((i.gK / 32) + 1) (p2.add ((i.gK / 32) + 1).toNat) (by kernel_rfl) (by kernel_rfl) hp2 (by omega) (by first | omega | (simp; omega)) (by rw [Nat.mul_one])) rfl ?_
   refine PL.stRow1 (Value.int .i64) (int_one _) S6 3 (cs.set (i.gK / 32).toNat Y) 3 p2 ((i.gK / 32) + 1).toNat Q rfl (by kernel_rfl) hp2 (by first | omega | (simp; omega)) (by kernel_rfl) ?_
   intro w7 S7
   replace S7 : Sep w0 (box bd22 [iv Y, iv Q] 97 :: box b1 (insC i) 48 :: box bm (mxC rs [.slice ra n rc]) 31 :: rowOf encI ra rc 3 1 ((cs.set (i.gK / 32).toNat Y).set ((i.gK / 32) + 1).toNat Q) :: L0) w7 := S7
   refine PB.mk (S7.erase 3) ?_
   refine PL.done ?_
   refine J.lb 3 [] [] [] S7 0 rfl 69 (iv Y) ?_
   refine J.e 2 [iv Y] Tryz.func65 (hR _ _ ?_)
   exact ⟨by rw [hY]; rfl, by unfold lgC; rw [← hY, ← hQ]; exact ((S7.erase 0).erase 0)⟩
  refine J.cn 6 [] [] [] 43 ((lagE (cs.getD (i.gK / 32).toNat 0) (cs.getD ((i.gK / 32) + 1).toNat 0) (i.gK % 32)) = 0) (fun fk1 => ?_) fun fk1 => ?_
  ·skip
   exact J.t 2 (X1 (lagP (cs.getD (i.gK / 32).toNat 0) (cs.getD ((i.gK / 32) + 1).toNat 0) (min (max x (-1099511627776)) 1099511627776) (i.gK % 32)) (lagQ (cs.getD (i.gK / 32).toNat 0) (cs.getD ((i.gK / 32) + 1).toNat 0) (min (max x (-1099511627776)) 1099511627776) (i.gK % 32)) w3 (by have hb := lagE_iff.1 fk1; obtain ⟨e1, e2, e3⟩ := lag_yes (x := lgX x) hb; unfold lgY; rw [show lgOK i cs = true from hb]; exact e2) (by have hb := lagE_iff.1 fk1; obtain ⟨e1, e2, e3⟩ := lag_yes (x := lgX x) hb; unfold lgR; rw [show lgOK i cs = true from hb]; exact e3) S3)
  refine J.c0 5 [true] [] [] S3 48 hb109 (flag_any 0 0 (min (max x (-1099511627776)) 1099511627776) (i.gK % 32) _ (by omega) (by omega)) fun w8 S8 => ?_
  refine J.sb 3 [] [] [] S8 0 rfl [iv (lagP 0 0 (min (max x (-1099511627776)) 1099511627776) (i.gK % 32)), iv (lagQ 0 0 (min (max x (-1099511627776)) 1099511627776) (i.gK % 32))] rfl fun w9 S9 => ?_
  exact J.t 1 (X1 (lagP 0 0 (min (max x (-1099511627776)) 1099511627776) (i.gK % 32)) (lagQ 0 0 (min (max x (-1099511627776)) 1099511627776) (i.gK % 32)) w9 (by have hb : lgOK i cs = false := (by cases h_ : lgOK i cs with | false => rfl | true => exact absurd (lagE_iff.2 h_) fk1); obtain ⟨e1, e2, e3⟩ := lag_yes (x := lgX x) (lagB_zero (i.gK % 32)); unfold lgY; rw [hb]; exact e2) (by have hb : lgOK i cs = false := (by cases h_ : lgOK i cs with | false => rfl | true => exact absurd (lagE_iff.2 h_) fk1); obtain ⟨e1, e2, e3⟩ := lag_yes (x := lgX x) (lagB_zero (i.gK % 32)); unfold lgR; rw [hb]; exact e3) S9)
 have W2 : ∀ (bd22 : Nat) (w10 : World), Sep w0 (box bd22 [iv 0, iv 0] 97 :: box b1 (insC i) 48 :: box bm (mxC rs [.slice ra n rc]) 31 :: rowOf encI ra rc 3 1 cs :: L0) w10 → WA Tryz.prog 65 70 R K65_0 (fun w_ => Sep w0 (box b1 (insC i) 48 :: box bm (mxC rs [.slice ra n rc]) 31 :: rowOf encI ra rc 3 1 cs :: L0) w_) 2 #[true, true, true, true, true, true, true, true, true, true, true, true, true, true, true, true, true, true, true, true, true, true, true, false, false] [(0, pv bm), (2, iv (min (max x (-1099511627776)) 1099511627776)), (7, iv (i.gK / 32)), (8, iv (i.gK % 32)), (9, pv bd22), (40, .agg #[iv (lagP (cs.getD (i.gK / 32).toNat 0) (cs.getD ((i.gK / 32) + 1).toNat 0) (min (max x (-1099511627776)) 1099511627776) (i.gK % 32)), iv (lagQ (cs.getD (i.gK / 32).toNat 0) (cs.getD ((i.gK / 32) + 1).toNat 0) (min (max x (-1099511627776)) 1099511627776) (i.gK % 32))]), (41, iv (lagE (cs.getD (i.gK / 32).toNat 0) (cs.getD ((i.gK / 32) + 1).toNat 0) (i.gK % 32)))] w10 := by
  intro bd22 w10 S10
  refine WA.all [23] (by kernel_rfl) rfl ⟨?_, trivial⟩
  refine WO.set #[true, true, true, true, true, true, true, true, true, true, true, true, true, true, true, true, true, true, true, true, true, true, true, true, false] (by kernel_rfl) ?_
  refine WO.stBox S10 0 97 0 (.agg #[iv (lagP (cs.getD (i.gK / 32).toNat 0) (cs.getD ((i.gK / 32) + 1).toNat 0) (min (max x (-1099511627776)) 1099511627776) (i.gK % 32)), iv (lagQ (cs.getD (i.gK / 32).toNat 0) (cs.getD ((i.gK / 32) + 1).toNat 0) (min (max x (-1099511627776)) 1099511627776) (i.gK % 32))]) [iv (lagP (cs.getD (i.gK / 32).toNat 0) (cs.getD ((i.gK / 32) + 1).toNat 0) (min (max x (-1099511627776)) 1099511627776) (i.gK % 32)), iv (lagQ (cs.getD (i.gK / 32).toNat 0) (cs.getD ((i.gK / 32) + 1).toNat 0) (min (max x (-1099511627776)) 1099511627776) (i.gK % 32))] (box bd22 [iv (lagP (cs.getD (i.gK / 32).toNat 0) (cs.getD ((i.gK / 32) + 1).toNat 0) (min (max x (-1099511627776)) 1099511627776) (i.gK % 32)), iv (lagQ (cs.getD (i.gK / 32).toNat 0) (cs.getD ((i.gK / 32) + 1).toNat 0) (min (max x (-1099511627776)) 1099511627776) (i.gK % 32))] 97 :: box b1 (insC i) 48 :: box bm (mxC rs [.slice ra n rc]) 31 :: rowOf encI ra rc 3 1 cs :: L0) (by kernel_rfl) rfl (by kernel_rfl) (by kernel_rfl) rfl ?_
  intro w11 S11
  refine WB.mk (S11.erase 0) ?_
  refine WA.take 24 10 (iv (lagE (cs.getD (i.gK / 32).toNat 0) (cs.getD ((i.gK / 32) + 1).toNat 0) (i.gK % 32))) #[true, true, true, true, true, true, true, true, true, true, true, true, true, true, true, true, true, true, true, true, true, true, true, true, true] (by kernel_rfl) (by kernel_rfl) (by kernel_rfl) (fun _ _ => by kernel_rfl) (by kernel_rfl) ?_
  refine WA.weaken (env' := [(0, pv bm), (2, iv (min (max x (-1099511627776)) 1099511627776)), (7, iv (i.gK / 32)), (8, iv (i.gK % 32)), (9, pv bd22), (10, iv (lagE (cs.getD (i.gK / 32).toNat 0) (cs.getD ((i.gK / 32) + 1).toNat 0) (i.gK % 32)))]) (by kernel_rfl) ?_
  exact W1 bd22 w11 S11
 have W3 : ∀ (w12 : World), Sep w0 (box b1 (insC i) 48 :: box bm (mxC rs [.slice ra n rc]) 31 :: rowOf encI ra rc 3 1 cs :: L0) w12 → WA Tryz.prog 65 70 R K65_0 (fun w_ => Sep w0 (box b1 (insC i) 48 :: box bm (mxC rs [.slice ra n rc]) 31 :: rowOf encI ra rc 3 1 cs :: L0) w_) 3 #[true, true, true, true, true, true, true, true, true, true, true, true, true, true, true, true, true, true, true, true, true, true, false, false, false] [(0, pv bm), (2, iv (min (max x (-1099511627776)) 1099511627776)), (7, iv (i.gK / 32)), (8, iv (i.gK % 32)), (40, .agg #[iv (lagP (cs.getD (i.gK / 32).toNat 0) (cs.getD ((i.gK / 32) + 1).toNat 0) (min (max x (-1099511627776)) 1099511627776) (i.gK % 32)), iv (lagQ (cs.getD (i.gK / 32).toNat 0) (cs.getD ((i.gK / 32) + 1).toNat 0) (min (max x (-1099511627776)) 1099511627776) (i.gK % 32))]), (41, iv (lagE (cs.getD (i.gK / 32).toNat 0) (cs.getD ((i.gK / 32) + 1).toNat 0) (i.gK % 32)))] w12 := by
  intro w12 S12
  refine WA.all [22] (by kernel_rfl) rfl ⟨?_, trivial⟩
  refine WO.set #[true, true, true, true, true, true, true, true, true, true, true, true, true, true, true, true, true, true, true, true, true, true, true, false, false] (by kernel_rfl) ?_
  refine WO.new S12 9 [iv 0, iv 0] 97 (by kernel_rfl) ?_
  intro bd22 w13 S13
  refine WB.mk (S13.erase 0) ?_
  refine WA.weaken (env' := [(0, pv bm), (2, iv (min (max x (-1099511627776)) 1099511627776)), (7, iv (i.gK / 32)), (8, iv (i.gK % 32)), (9, pv bd22), (40, .agg #[iv (lagP (cs.getD (i.gK / 32).toNat 0) (cs.getD ((i.gK / 32) + 1).toNat 0) (min (max x (-1099511627776)) 1099511627776) (i.gK % 32)), iv (lagQ (cs.getD (i.gK / 32).toNat 0) (cs.getD ((i.gK / 32) + 1).toNat 0) (min (max x (-1099511627776)) 1099511627776) (i.gK % 32))]), (41, iv (lagE (cs.getD (i.gK / 32).toNat 0) (cs.getD ((i.gK / 32) + 1).toNat 0) (i.gK % 32)))]) (by kernel_rfl) ?_
  exact W2 bd22 w13 S13
 have W4 : ∀ (bd22 : Nat) (w14 : World), Sep w0 (box bd22 [iv 0, iv 0] 97 :: box b1 (insC i) 48 :: box bm (mxC rs [.slice ra n rc]) 31 :: rowOf encI ra rc 3 1 cs :: L0) w14 → WA Tryz.prog 65 70 R K65_0 (fun w_ => Sep w0 (box b1 (insC i) 48 :: box bm (mxC rs [.slice ra n rc]) 31 :: rowOf encI ra rc 3 1 cs :: L0) w_) 6 #[true, true, true, true, true, true, true, true, true, true, true, true, true, true, true, true, true, true, false, false, false, false, true, false, false] [(0, pv bm), (2, iv (min (max x (-1099511627776)) 1099511627776)), (7, iv (i.gK / 32)), (8, iv (i.gK % 32)), (9, pv bd22), (36, .agg #[iv (cs.getD (i.gK / 32).toNat 0), iv (cs.getD ((i.gK / 32) + 1).toNat 0)]), (37, iv (min (max x (-1099511627776)) 1099511627776)), (38, iv (i.gK % 32))] w14 := by
  intro bd22 w14 S14
  refine WA.all [18] (by kernel_rfl) rfl ⟨?_, trivial⟩
  refine WO.set #[true, true, true, true, true, true, true, true, true, true, true, true, true, true, true, true, true, true, true, false, false, false, true, false, false] (by kernel_rfl) ?_
  refine WO.callF 39 109 #[.agg #[iv (cs.getD (i.gK / 32).toNat 0), iv (cs.getD ((i.gK / 32) + 1).toNat 0)], iv (min (max x (-1099511627776)) 1099511627776), iv (i.gK % 32)] hb109 (by kernel_rfl) (flag_any (cs.getD (i.gK / 32).toNat 0) (cs.getD ((i.gK / 32) + 1).toNat 0) (min (max x (-1099511627776)) 1099511627776) (i.gK % 32) _ (by omega) (by omega)) ?_
  rintro _ w15 ⟨rfl, T1⟩
  have S15 : Sep w0 (box bd22 [iv 0, iv 0] 97 :: box b1 (insC i) 48 :: box bm (mxC rs [.slice ra n rc]) 31 :: rowOf encI ra rc 3 1 cs :: L0) w15 := S14.trans T1
  clear T1 S14
  refine WB.mk (S15.erase 0) ?_
  refine WA.take 19 20 (.tuple #[.agg #[iv (lagP (cs.getD (i.gK / 32).toNat 0) (cs.getD ((i.gK / 32) + 1).toNat 0) (min (max x (-1099511627776)) 1099511627776) (i.gK % 32)), iv (lagQ (cs.getD (i.gK / 32).toNat 0) (cs.getD ((i.gK / 32) + 1).toNat 0) (min (max x (-1099511627776)) 1099511627776) (i.gK % 32))], iv (lagE (cs.getD (i.gK / 32).toNat 0) (cs.getD ((i.gK / 32) + 1).toNat 0) (i.gK % 32))]) #[true, true, true, true, true, true, true, true, true, true, true, true, true, true, true, true, true, true, true, true, false, false, true, false, false] (by kernel_rfl) (by kernel_rfl) (by kernel_rfl) (fun _ _ => by kernel_rfl) (by kernel_rfl) ?_
  refine WA.take 20 40 (.agg #[iv (lagP (cs.getD (i.gK / 32).toNat 0) (cs.getD ((i.gK / 32) + 1).toNat 0) (min (max x (-1099511627776)) 1099511627776) (i.gK % 32)), iv (lagQ (cs.getD (i.gK / 32).toNat 0) (cs.getD ((i.gK / 32) + 1).toNat 0) (min (max x (-1099511627776)) 1099511627776) (i.gK % 32))]) #[true, true, true, true, true, true, true, true, true, true, true, true, true, true, true, true, true, true, true, true, true, false, true, false, false] (by kernel_rfl) (by kernel_rfl) (by kernel_rfl) (fun _ _ => by kernel_rfl) (by kernel_rfl) ?_
  refine WA.take 21 41 (iv (lagE (cs.getD (i.gK / 32).toNat 0) (cs.getD ((i.gK / 32) + 1).toNat 0) (i.gK % 32))) #[true, true, true, true, true, true, true, true, true, true, true, true, true, true, true, true, true, true, true, true, true, true, true, false, false] (by kernel_rfl) (by kernel_rfl) (by kernel_rfl) (fun _ _ => by kernel_rfl) (by kernel_rfl) ?_
  refine WA.weaken (env' := [(0, pv bm), (2, iv (min (max x (-1099511627776)) 1099511627776)), (7, iv (i.gK / 32)), (8, iv (i.gK % 32)), (9, pv bd22), (40, .agg #[iv (lagP (cs.getD (i.gK / 32).toNat 0) (cs.getD ((i.gK / 32) + 1).toNat 0) (min (max x (-1099511627776)) 1099511627776) (i.gK % 32)), iv (lagQ (cs.getD (i.gK / 32).toNat 0) (cs.getD ((i.gK / 32) + 1).toNat 0) (min (max x (-1099511627776)) 1099511627776) (i.gK % 32))]), (41, iv (lagE (cs.getD (i.gK / 32).toNat 0) (cs.getD ((i.gK / 32) + 1).toNat 0) (i.gK % 32)))]) (by kernel_rfl) ?_
  exact W2 bd22 w15 S15
 have W5 : ∀ (w16 : World), Sep w0 (box b1 (insC i) 48 :: box bm (mxC rs [.slice ra n rc]) 31 :: rowOf encI ra rc 3 1 cs :: L0) w16 → WA Tryz.prog 65 70 R K65_0 (fun w_ => Sep w0 (box b1 (insC i) 48 :: box bm (mxC rs [.slice ra n rc]) 31 :: rowOf encI ra rc 3 1 cs :: L0) w_) 7 #[true, true, true, true, true, true, true, true, true, true, true, true, true, true, true, true, true, true, false, false, false, false, false, false, false] [(0, pv bm), (2, iv (min (max x (-1099511627776)) 1099511627776)), (7, iv (i.gK / 32)), (8, iv (i.gK % 32)), (36, .agg #[iv (cs.getD (i.gK / 32).toNat 0), iv (cs.getD ((i.gK / 32) + 1).toNat 0)]), (37, iv (min (max x (-1099511627776)) 1099511627776)), (38, iv (i.gK % 32))] w16 := by
  intro w16 S16
  refine WA.all [18, 22] (by kernel_rfl) rfl ⟨?_, ?_, trivial⟩
  ·skip
   refine WO.set #[true, true, true, true, true, true, true, true, true, true, true, true, true, true, true, true, true, true, true, false, false, false, false, false, false] (by kernel_rfl) ?_
   refine WO.callF 39 109 #[.agg #[iv (cs.getD (i.gK / 32).toNat 0), iv (cs.getD ((i.gK / 32) + 1).toNat 0)], iv (min (max x (-1099511627776)) 1099511627776), iv (i.gK % 32)] hb109 (by kernel_rfl) (flag_any (cs.getD (i.gK / 32).toNat 0) (cs.getD ((i.gK / 32) + 1).toNat 0) (min (max x (-1099511627776)) 1099511627776) (i.gK % 32) _ (by omega) (by omega)) ?_
   rintro _ w17 ⟨rfl, T2⟩
   have S17 : Sep w0 (box b1 (insC i) 48 :: box bm (mxC rs [.slice ra n rc]) 31 :: rowOf encI ra rc 3 1 cs :: L0) w17 := S16.trans T2
   clear T2 S16
   refine WB.mk S17 ?_
   refine WA.take 19 20 (.tuple #[.agg #[iv (lagP (cs.getD (i.gK / 32).toNat 0) (cs.getD ((i.gK / 32) + 1).toNat 0) (min (max x (-1099511627776)) 1099511627776) (i.gK % 32)), iv (lagQ (cs.getD (i.gK / 32).toNat 0) (cs.getD ((i.gK / 32) + 1).toNat 0) (min (max x (-1099511627776)) 1099511627776) (i.gK % 32))], iv (lagE (cs.getD (i.gK / 32).toNat 0) (cs.getD ((i.gK / 32) + 1).toNat 0) (i.gK % 32))]) #[true, true, true, true, true, true, true, true, true, true, true, true, true, true, true, true, true, true, true, true, false, false, false, false, false] (by kernel_rfl) (by kernel_rfl) (by kernel_rfl) (fun _ _ => by kernel_rfl) (by kernel_rfl) ?_
   refine WA.take 20 40 (.agg #[iv (lagP (cs.getD (i.gK / 32).toNat 0) (cs.getD ((i.gK / 32) + 1).toNat 0) (min (max x (-1099511627776)) 1099511627776) (i.gK % 32)), iv (lagQ (cs.getD (i.gK / 32).toNat 0) (cs.getD ((i.gK / 32) + 1).toNat 0) (min (max x (-1099511627776)) 1099511627776) (i.gK % 32))]) #[true, true, true, true, true, true, true, true, true, true, true, true, true, true, true, true, true, true, true, true, true, false, false, false, false] (by kernel_rfl) (by kernel_rfl) (by kernel_rfl) (fun _ _ => by kernel_rfl) (by kernel_rfl) ?_
   refine WA.take 21 41 (iv (lagE (cs.getD (i.gK / 32).toNat 0) (cs.getD ((i.gK / 32) + 1).toNat 0) (i.gK % 32))) #[true, true, true, true, true, true, true, true, true, true, true, true, true, true, true, true, true, true, true, true, true, true, false, false, false] (by kernel_rfl) (by kernel_rfl) (by kernel_rfl) (fun _ _ => by kernel_rfl) (by kernel_rfl) ?_
   refine WA.weaken (env' := [(0, pv bm), (2, iv (min (max x (-1099511627776)) 1099511627776)), (7, iv (i.gK / 32)), (8, iv (i.gK % 32)), (40, .agg #[iv (lagP (cs.getD (i.gK / 32).toNat 0) (cs.getD ((i.gK / 32) + 1).toNat 0) (min (max x (-1099511627776)) 1099511627776) (i.gK % 32)), iv (lagQ (cs.getD (i.gK / 32).toNat 0) (cs.getD ((i.gK / 32) + 1).toNat 0) (min (max x (-1099511627776)) 1099511627776) (i.gK % 32))]), (41, iv (lagE (cs.getD (i.gK / 32).toNat 0) (cs.getD ((i.gK / 32) + 1).toNat 0) (i.gK % 32)))]) (by kernel_rfl) ?_
   exact W3 w17 S17
  refine WO.set #[true, true, true, true, true, true, true, true, true, true, true, true, true, true, true, true, true, true, false, false, false, false, true, false, false] (by kernel_rfl) ?_
  refine WO.new S16 9 [iv 0, iv 0] 97 (by kernel_rfl) ?_
  intro bd22 w18 S18
  refine WB.mk (S18.erase 0) ?_
  refine WA.weaken (env' := [(0, pv bm), (2, iv (min (max x (-1099511627776)) 1099511627776)), (7, iv (i.gK / 32)), (8, iv (i.gK % 32)), (9, pv bd22), (36, .agg #[iv (cs.getD (i.gK / 32).toNat 0), iv (cs.getD ((i.gK / 32) + 1).toNat 0)]), (37, iv (min (max x (-1099511627776)) 1099511627776)), (38, iv (i.gK % 32))]) (by kernel_rfl) ?_
  exact W4 bd22 w18 S18
 refine J.drawAny (fun w_ => Sep w0 (box b1 (insC i) 48 :: box bm (mxC rs [.slice ra n rc]) 31 :: rowOf encI ra rc 3 1 cs :: L0) w_) S2 25 #[false, false, false, false, false, false, false, false, false, false, false, false, false, false, false, false, false, false, false, false, false, false, false, false, false] Tryz.mixed (by kernel_rfl) (by kernel_rfl) (by kernel_rfl) ?_
 intro w19 S19
 refine WB.mk S19 ?_
 refine WA.take 0 21 (pv bm) #[true, false, false, false, false, false, false, false, false, false, false, false, false, false, false, false, false, false, false, false, false, false, false, false, false] (by kernel_rfl) (by kernel_rfl) (by kernel_rfl) (fun _ _ => by kernel_rfl) (by kernel_rfl) ?_
 refine WA.take 1 22 (pv bm) #[true, true, false, false, false, false, false, false, false, false, false, false, false, false, false, false, false, false, false, false, false, false, false, false, false] (by kernel_rfl) (by kernel_rfl) (by kernel_rfl) (fun _ _ => by kernel_rfl) (by kernel_rfl) ?_
 refine WA.take 2 23 (.pointer (some ⟨bm, 16, none⟩)) #[true, true, true, false, false, false, false, false, false, false, false, false, false, false, false, false, false, false, false, false, false, false, false, false, false] (by kernel_rfl) (by kernel_rfl) (by kernel_rfl) (fun _ _ => by kernel_rfl) (by kernel_rfl) ?_
 refine WA.takeOK 3 #[true, true, true, true, false, false, false, false, false, false, false, false, false, false, false, false, false, false, false, false, false, false, false, false, false] (by kernel_rfl) (by kernel_rfl) (by kernel_rfl) (by kernel_rfl) (fun w_ S_ => OK.ldMt S_ 1 rfl 24 26 16 (by assumption)) rfl ?_
 refine WA.take 4 25 (iv (i.gK / 32)) #[true, true, true, true, true, false, false, false, false, false, false, false, false, false, false, false, false, false, false, false, false, false, false, false, false] (by kernel_rfl) (by kernel_rfl) (by kernel_rfl) (fun _ _ => by kernel_rfl) (by kernel_rfl) ?_
 refine WA.takeOK 5 #[true, true, true, true, true, true, false, false, false, false, false, false, false, false, false, false, false, false, false, false, false, false, false, false, false] (by kernel_rfl) (by kernel_rfl) (by kernel_rfl) (by kernel_rfl) (fun w_ S_ => OK.index 26 26 1 ra p1 n (i.gK / 32).toNat (i.gK / 32) (p1.add (i.gK / 32).toNat) (by kernel_rfl) (by kernel_rfl) hp1 (by omega) (by first | omega | (simp; omega)) (by rw [Nat.mul_one])) rfl ?_
 refine WA.takeOK 6 #[true, true, true, true, true, true, true, false, false, false, false, false, false, false, false, false, false, false, false, false, false, false, false, false, false] (by kernel_rfl) (by kernel_rfl) (by kernel_rfl) (by kernel_rfl) (fun w_ S_ => OK.ldCell 27 3 (p1.add (i.gK / 32).toNat) (iv (cs.getD (i.gK / 32).toNat 0)) (by kernel_rfl) (by kernel_rfl) (row1_cell (g := (Value.int .i64)) S_ 2 rfl hp1 0 (i.gK / 32).toNat (by first | omega | (simp; omega)))) rfl ?_
 refine WA.take 7 28 (pv bm) #[true, true, true, true, true, true, true, true, false, false, false, false, false, false, false, false, false, false, false, false, false, false, false, false, false] (by kernel_rfl) (by kernel_rfl) (by kernel_rfl) (fun _ _ => by kernel_rfl) (by kernel_rfl) ?_
 refine WA.take 8 29 (pv bm) #[true, true, true, true, true, true, true, true, true, false, false, false, false, false, false, false, false, false, false, false, false, false, false, false, false] (by kernel_rfl) (by kernel_rfl) (by kernel_rfl) (fun _ _ => by kernel_rfl) (by kernel_rfl) ?_
 refine WA.take 9 30 (.pointer (some ⟨bm, 16, none⟩)) #[true, true, true, true, true, true, true, true, true, true, false, false, false, false, false, false, false, false, false, false, false, false, false, false, false] (by kernel_rfl) (by kernel_rfl) (by kernel_rfl) (fun _ _ => by kernel_rfl) (by kernel_rfl) ?_
 refine WA.takeOK 10 #[true, true, true, true, true, true, true, true, true, true, true, false, false, false, false, false, false, false, false, false, false, false, false, false, false] (by kernel_rfl) (by kernel_rfl) (by kernel_rfl) (by kernel_rfl) (fun w_ S_ => OK.ldMt S_ 1 rfl 31 26 16 (by assumption)) rfl ?_
 refine WA.take 11 32 (iv (i.gK / 32)) #[true, true, true, true, true, true, true, true, true, true, true, true, false, false, false, false, false, false, false, false, false, false, false, false, false] (by kernel_rfl) (by kernel_rfl) (by kernel_rfl) (fun _ _ => by kernel_rfl) (by kernel_rfl) ?_
 refine WA.take 12 33 (iv (IntKind.wrap .i64 ((i.gK / 32) + 1))) #[true, true, true, true, true, true, true, true, true, true, true, true, true, false, false, false, false, false, false, false, false, false, false, false, false] (by kernel_rfl) (by kernel_rfl) (by kernel_rfl) (fun _ _ => by kernel_rfl) (by kernel_rfl) ?_
 refine WA.head (iv ((i.gK / 32) + 1)) (congrArg (Value.int .i64) (IntWalk.i64_in _ (by omega))) ?_
 refine WA.takeOK 13 #[true, true, true, true, true, true, true, true, true, true, true, true, true, true, false, false, false, false, false, false, false, false, false, false, false] (by kernel_rfl) (by kernel_rfl) (by kernel_rfl) (by kernel_rfl) (fun w_ S_ => OK.index 34 26 1 ra p2 n ((i.gK / 32) + 1).toNat ((i.gK / 32) + 1) (p2.add ((i.gK / 32) + 1).toNat) (by kernel_rfl) (by kernel_rfl) hp2 (by omega) (by first | omega | (simp; omega)) (by rw [Nat.mul_one])) rfl ?_
 refine WA.takeOK 14 #[true, true, true, true, true, true, true, true, true, true, true, true, true, true, true, false, false, false, false, false, false, false, false, false, false] (by kernel_rfl) (by kernel_rfl) (by kernel_rfl) (by kernel_rfl) (fun w_ S_ => OK.ldCell 35 3 (p2.add ((i.gK / 32) + 1).toNat) (iv (cs.getD ((i.gK / 32) + 1).toNat 0)) (by kernel_rfl) (by kernel_rfl) (row1_cell (g := (Value.int .i64)) S_ 2 rfl hp2 0 ((i.gK / 32) + 1).toNat (by first | omega | (simp; omega)))) rfl ?_
 refine WA.take 15 36 (.agg #[iv (cs.getD (i.gK / 32).toNat 0), iv (cs.getD ((i.gK / 32) + 1).toNat 0)]) #[true, true, true, true, true, true, true, true, true, true, true, true, true, true, true, true, false, false, false, false, false, false, false, false, false] (by kernel_rfl) (by kernel_rfl) (by kernel_rfl) (fun _ _ => by kernel_rfl) (by kernel_rfl) ?_
 refine WA.take 16 37 (iv (min (max x (-1099511627776)) 1099511627776)) #[true, true, true, true, true, true, true, true, true, true, true, true, true, true, true, true, true, false, false, false, false, false, false, false, false] (by kernel_rfl) (by kernel_rfl) (by kernel_rfl) (fun _ _ => by kernel_rfl) (by kernel_rfl) ?_
 refine WA.take 17 38 (iv (i.gK % 32)) #[true, true, true, true, true, true, true, true, true, true, true, true, true, true, true, true, true, true, false, false, false, false, false, false, false] (by kernel_rfl) (by kernel_rfl) (by kernel_rfl) (fun _ _ => by kernel_rfl) (by kernel_rfl) ?_
 refine WA.weaken (env' := [(0, pv bm), (2, iv (min (max x (-1099511627776)) 1099511627776)), (7, iv (i.gK / 32)), (8, iv (i.gK % 32)), (36, .agg #[iv (cs.getD (i.gK / 32).toNat 0), iv (cs.getD ((i.gK / 32) + 1).toNat 0)]), (37, iv (min (max x (-1099511627776)) 1099511627776)), (38, iv (i.gK % 32))]) (by kernel_rfl) ?_
 exact W5 w19 S19

end
end Go.Proofs.YtaoolgcddapegaaGreatDoor

