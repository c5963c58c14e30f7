/- Walks of functions of this seat, printed by a program over the engine. Conditions: as each theorem says. -/
import Derived.Test.YtaoolgcddapegaaGreatDoorZsF37
namespace Go.Proofs.YtaoolgcddapegaaGreatDoor
noncomputable section
open Go.Eng Go.RowKit
set_option linter.unusedSimpArgs false
set_option linter.unusedVariables false
set_option maxRecDepth 20000
set_option maxHeartbeats 20000000
theorem hb28 : HasBody Tryz.prog 28 := fun _ _ => by kernel_rfl
def K28_0 := List.drop 1 (adv 10 [] (rRest (adv 7 [] (bodyOf Tryz.f28))))
theorem execute_any (p : Prg) (i : Ins) (bm : Nat) (rs : List Int) (ra : Option Addr) (n rc : Nat) (cs : List Int) (w0 : World) (L0 : List Eng.Claim) (w : World) (S0 : Sep w0 (box bm (mxC rs [.slice ra n rc]) 31 :: rowOf encI ra rc 3 1 cs :: L0) w) (hrs : rs.length = 16) (hn : cs.length = n) (hp : prgQ w0 p) (hi : insQ w0 i) (hv : validP p = true) (hf : fitsI p i = true) (hcn : (n : Int) = p.gCells) : Ret Tryz.prog 28 #[.agg (prgA p), pv bm, .agg (insA i)] w (fun v w' => v = iv (exE p i rs) ∧ Sep w0 (box bm (mxC (exR p i rs cs) [.slice ra n rc]) 31 :: rowOf encI ra rc 3 1 (exC i rs cs) :: L0) w') := by
 refine Ret.st (N := 160) Tryz.func28 fun R hR _ => ?_
 obtain ⟨q1, q2, q3, q4, q5, q6, q7, q8, q9, q10, q11, q12, q13, q14, q15, q16, q17, q18, q19, q20, q21, q22, q23, q24, q25, _⟩ := id hp
 have ql1 := q2.len_eq
 have ql2 := q5.len_eq
 have ql3 := q8.len_eq
 have ql4 := q11.len_eq
 have ql5 := q15.len_eq
 have ql6 := q18.len_eq
 have ql7 := q21.len_eq
 have ql8 := q24.len_eq
 obtain ⟨q26, q27, q28, q29, q30, _⟩ := id hi
 have hfp := formB_iff.1 (fits_form hf).1
 have hnm := (fits_form hf).2
 have hop1 := op_facts hnm
 refine J.nw 2 [] [] [] S0 3 (prgC p) 28 fun b1 w1 S1 => ?_
 refine J.nw 0 [] [] [] S1 5 (insC i) 48 fun b2 w2 S2 => ?_
 refine J.r 3 [] [] [] ?_
 refine J.drawStill S2 24 Tryz.mixed (by kernel_rfl) (by kernel_rfl) (by kernel_rfl) ?_
 intro w3 S3
 refine SL.r 13 (pv bm) ?_
 refine SL.r 14 (.pointer (some ⟨b2, 1, none⟩)) ?_
 refine SL.lb S3 0 rfl 15 (iv i.gA) ?_
 refine SL.r 16 (pv bm) ?_
 refine SL.r 17 (pv bm) ?_
 refine SL.ok (by decide) (OK.indexP 18 29 16 1 bm 0 ((i.gA).toNat) i.gA (by kernel_rfl) (by kernel_rfl) (by omega) (by omega)) ?_
 refine SL.head (.pointer (some ⟨bm, (i.gA).toNat, none⟩)) (by first | rfl | (rw [Nat.zero_add, Nat.mul_one])) ?_
 refine SL.ok (by decide) (OK.ldMi S3 2 rfl 19 3 ((i.gA).toNat)) ?_
 refine SL.r 20 (pv bm) ?_
 refine SL.r 21 (.pointer (some ⟨b2, 2, none⟩)) ?_
 refine SL.lb S3 0 rfl 22 (iv i.gB) ?_
 refine SL.r 23 (pv bm) ?_
 refine SL.r 24 (pv bm) ?_
 refine SL.ok (by decide) (OK.indexP 25 29 16 1 bm 0 ((i.gB).toNat) i.gB (by kernel_rfl) (by kernel_rfl) (by omega) (by omega)) ?_
 refine SL.head (.pointer (some ⟨bm, (i.gB).toNat, none⟩)) (by first | rfl | (rw [Nat.zero_add, Nat.mul_one])) ?_
 refine SL.ok (by decide) (OK.ldMi S3 2 rfl 26 3 ((i.gB).toNat)) ?_
 refine SL.r 27 (pv bm) ?_
 refine SL.r 28 (.pointer (some ⟨b2, 3, none⟩)) ?_
 refine SL.lb S3 0 rfl 29 (iv i.gC) ?_
 refine SL.r 30 (pv bm) ?_
 refine SL.r 31 (pv bm) ?_
 refine SL.ok (by decide) (OK.indexP 32 29 16 1 bm 0 ((i.gC).toNat) i.gC (by kernel_rfl) (by kernel_rfl) (by omega) (by omega)) ?_
 refine SL.head (.pointer (some ⟨bm, (i.gC).toNat, none⟩)) (by first | rfl | (rw [Nat.zero_add, Nat.mul_one])) ?_
 refine SL.ok (by decide) (OK.ldMi S3 2 rfl 33 3 ((i.gC).toNat)) ?_
 refine SL.r 7 (iv (rs.getD ((i.gA).toNat) 0)) ?_
 refine SL.r 8 (iv (rs.getD ((i.gB).toNat) 0)) ?_
 refine SL.r 9 (iv (rs.getD ((i.gC).toNat) 0)) ?_
 refine SL.done ?_
 refine TL.done (by kernel_rfl) ?_
 refine J.lb 8 [] [] [] S3 0 rfl 35 (iv i.gOp) ?_
 have X1 : ∀ (out : Int) (cl : List Int) (w4 : World), (out = exV p i rs cs) → (cl = exC i rs cs) → (exE p i rs = 0) → (i.gOp ≠ 3) → Sep w0 (box b2 (insC i) 48 :: box b1 (prgC p) 28 :: box bm (mxC rs [.slice ra n rc]) 31 :: rowOf encI ra rc 3 1 cl :: L0) w4 → J Tryz.prog 28 160 R K28_0 [(5, pv b2), (1, pv bm), (10, iv out)] w4 := by
  intro out cl w4 hout hcl hz hop S4
  refine J.r 1 [] [] [] ?_
  refine J.drawTail S4 7 Tryz.mixed (by kernel_rfl) (by kernel_rfl) ?_
  intro w5 S5
  refine SL.r 153 (pv bm) ?_
  refine SL.r 154 (.pointer (some ⟨b2, 1, none⟩)) ?_
  refine SL.lb S5 0 rfl 155 (iv i.gA) ?_
  refine SL.r 156 (iv out) ?_
  refine SL.r 157 (pv bm) ?_
  refine SL.r 158 (pv bm) ?_
  refine SL.ok (by decide) (OK.indexP 159 29 16 1 bm 0 ((i.gA).toNat) i.gA (by kernel_rfl) (by kernel_rfl) (by omega) (by omega)) ?_
  refine SL.head (.pointer (some ⟨bm, (i.gA).toNat, none⟩)) (by first | rfl | (rw [Nat.zero_add, Nat.mul_one])) ?_
  refine SL.done ?_
  refine TL.stBox S5 2 3 (i.gA).toNat (iv out) (mxC (rs.set ((i.gA).toNat) out) [.slice ra n rc]) (box b2 (insC i) 48 :: box b1 (prgC p) 28 :: box bm (mxC (rs.set ((i.gA).toNat) out) [.slice ra n rc]) 31 :: rowOf encI ra rc 3 1 cl :: L0) (by kernel_rfl) rfl (by kernel_rfl) (stV_mi out (by first | omega | (simp; omega))) rfl ?_
  intro w6 S6
  refine TL.done (by kernel_rfl) ?_
  refine J.e 4 [iv 0] Tryz.func28 (hR _ _ ?_)
  have e1 : exR p i rs cs = rs.set i.gA.toNat out := by unfold exR; rw [if_neg (by omega), hout]
  exact ⟨by rw [hz]; rfl, by rw [e1, ← hcl]; exact ((S6.erase 0).erase 0)⟩
 refine J.c 7 [] [] [] 48 (i.gOp = 1) (fun fk1 => ?_) fun fk1 => ?_
 ·skip
  refine J.lb 3 [true] [] [] S3 0 rfl 51 (iv i.gK) ?_
  exact J.t 3 (X1 i.gK cs w3 (by unfold exV; (repeat first | rw [if_pos (by omega)] | rw [if_neg (by omega)]) <;> (try simp only [bneD, beqD, decide_true, decide_false, Bool.not_true, Bool.not_false, Bool.true_and, Bool.false_and, Bool.true_or, Bool.false_or])) (by unfold exC; (repeat first | rw [if_pos (by omega)] | rw [if_neg (by omega)])) (by unfold exE; rw [if_neg (by omega)]) (by omega) S3)
 refine J.c 6 [false] [] [] 52 (i.gOp = 2) (fun fk2 => ?_) fun fk2 => ?_
 ·skip
  refine J.r 1 [true] [] [] ?_
  obtain ⟨p1, hp1⟩ := row1_addr (S3.nth 3 rfl) (show 0 < (cs).length by first | omega | (simp; omega))
  refine J.drawStill S3 9 Tryz.mixed (by kernel_rfl) (by kernel_rfl) (by kernel_rfl) ?_
  intro w7 S7
  refine SL.r 54 (pv bm) ?_
  refine SL.r 55 (pv bm) ?_
  refine SL.r 56 (.pointer (some ⟨bm, 16, none⟩)) ?_
  refine SL.ok (by decide) (OK.ldMt S7 2 rfl 57 26 16 (by assumption)) ?_
  refine SL.r 58 (.pointer (some ⟨b2, 4, none⟩)) ?_
  refine SL.lb S7 0 rfl 59 (iv i.gK) ?_
  refine SL.ok (by decide) (OK.index 60 26 1 ra p1 n (i.gK).toNat i.gK (p1.add (i.gK).toNat) (by kernel_rfl) (by kernel_rfl) hp1 (by omega) (by first | omega | (simp; omega)) (by rw [Nat.mul_one])) ?_
  refine SL.ok (by decide) (OK.ldCell 61 3 (p1.add (i.gK).toNat) (iv (cs.getD (i.gK).toNat 0)) (by kernel_rfl) (by kernel_rfl) (row1_cell (g := (Value.int .i64)) S7 3 rfl hp1 0 (i.gK).toNat (by first | omega | (simp; omega)))) ?_
  refine SL.r 10 (iv (cs.getD (i.gK).toNat 0)) ?_
  refine SL.done ?_
  refine TL.done (by kernel_rfl) ?_
  exact J.t 1 (X1 (cs.getD (i.gK).toNat 0) cs w7 (by unfold exV; (repeat first | rw [if_pos (by omega)] | rw [if_neg (by omega)]) <;> (try simp only [bneD, beqD, decide_true, decide_false, Bool.not_true, Bool.not_false, Bool.true_and, Bool.false_and, Bool.true_or, Bool.false_or])) (by unfold exC; (repeat first | rw [if_pos (by omega)] | rw [if_neg (by omega)])) (by unfold exE; rw [if_neg (by omega)]) (by omega) S7)
 refine J.c 6 [false] [] [] 62 (i.gOp = 3) (fun fk3 => ?_) fun fk3 => ?_
 ·skip
  refine J.r 2 [true] [] [] ?_
  obtain ⟨p2, hp2⟩ := row1_addr (S3.nth 3 rfl) (show 0 < (cs).length by first | omega | (simp; omega))
  refine J.drawTail S3 8 Tryz.mixed (by kernel_rfl) (by kernel_rfl) ?_
  intro w8 S8
  refine SL.r 64 (pv bm) ?_
  refine SL.r 65 (pv bm) ?_
  refine SL.r 66 (.pointer (some ⟨bm, 16, none⟩)) ?_
  refine SL.ok (by decide) (OK.ldMt S8 2 rfl 67 26 16 (by assumption)) ?_
  refine SL.r 68 (.pointer (some ⟨b2, 4, none⟩)) ?_
  refine SL.lb S8 0 rfl 69 (iv i.gK) ?_
  refine SL.r 70 (iv (rs.getD ((i.gA).toNat) 0)) ?_
  refine SL.ok (by decide) (OK.index 71 26 1 ra p2 n (i.gK).toNat i.gK (p2.add (i.gK).toNat) (by kernel_rfl) (by kernel_rfl) hp2 (by omega) (by first | omega | (simp; omega)) (by rw [Nat.mul_one])) ?_
  refine SL.done ?_
  refine TL.stRow1 (Value.int .i64) (int_one _) S8 3 cs 3 p2 (i.gK).toNat (rs.getD ((i.gA).toNat) 0) rfl (by kernel_rfl) hp2 (by first | omega | (simp; omega)) (by kernel_rfl) ?_
  intro w9 S9
  replace S9 : Sep w0 (box b2 (insC i) 48 :: box b1 (prgC p) 28 :: box bm (mxC rs [.slice ra n rc]) 31 :: rowOf encI ra rc 3 1 (cs.set (i.gK).toNat (rs.getD ((i.gA).toNat) 0)) :: L0) w9 := S9
  refine TL.done (by kernel_rfl) ?_
  refine J.e 4 [iv 0] Tryz.func28 (hR _ _ ?_)
  have e0 : exE p i rs = 0 := by unfold exE; rw [if_neg (by omega)]
  have e1 : exR p i rs cs = rs := by unfold exR; rw [if_pos (by omega)]
  have e2 : exC i rs cs = cs.set i.gK.toNat (rs.getD i.gA.toNat 0) := by unfold exC; rw [if_pos (by omega)]
  exact ⟨by rw [e0]; rfl, by rw [e1, e2]; exact ((S9.erase 0).erase 0)⟩
 refine J.c 6 [false] [] [] 72 (i.gOp = 4) (fun fk4 => ?_) fun fk4 => ?_
 ·skip
  exact J.t 6 (X1 (rs.getD ((i.gB).toNat) 0) cs w3 (by unfold exV; (repeat first | rw [if_pos (by omega)] | rw [if_neg (by omega)]) <;> (try simp only [bneD, beqD, decide_true, decide_false, Bool.not_true, Bool.not_false, Bool.true_and, Bool.false_and, Bool.true_or, Bool.false_or])) (by unfold exC; (repeat first | rw [if_pos (by omega)] | rw [if_neg (by omega)])) (by unfold exE; rw [if_neg (by omega)]) (by omega) S3)
 refine J.c 6 [false] [] [] 75 (i.gOp = 11) (fun fk5 => ?_) fun fk5 => ?_
 ·skip
  refine J.h 5 [true] [] [] 79 (iv (if (rs.getD ((i.gC).toNat) 0) < (rs.getD ((i.gB).toNat) 0) then (rs.getD ((i.gC).toNat) 0) else (rs.getD ((i.gB).toNat) 0))) (iv (min (rs.getD ((i.gB).toNat) 0) (rs.getD ((i.gC).toNat) 0))) (congrArg (Value.int .i64) (by omega)) ?_
  exact J.t 3 (X1 (min (rs.getD ((i.gB).toNat) 0) (rs.getD ((i.gC).toNat) 0)) cs w3 (by unfold exV; (repeat first | rw [if_pos (by omega)] | rw [if_neg (by omega)]) <;> (try simp only [bneD, beqD, decide_true, decide_false, Bool.not_true, Bool.not_false, Bool.true_and, Bool.false_and, Bool.true_or, Bool.false_or])) (by unfold exC; (repeat first | rw [if_pos (by omega)] | rw [if_neg (by omega)])) (by unfold exE; rw [if_neg (by omega)]) (by omega) S3)
 refine J.c 6 [false] [] [] 80 (i.gOp = 12) (fun fk6 => ?_) fun fk6 => ?_
 ·skip
  refine J.h 5 [true] [] [] 84 (iv (if (rs.getD ((i.gC).toNat) 0) > (rs.getD ((i.gB).toNat) 0) then (rs.getD ((i.gC).toNat) 0) else (rs.getD ((i.gB).toNat) 0))) (iv (max (rs.getD ((i.gB).toNat) 0) (rs.getD ((i.gC).toNat) 0))) (congrArg (Value.int .i64) (by omega)) ?_
  exact J.t 3 (X1 (max (rs.getD ((i.gB).toNat) 0) (rs.getD ((i.gC).toNat) 0)) cs w3 (by unfold exV; (repeat first | rw [if_pos (by omega)] | rw [if_neg (by omega)]) <;> (try simp only [bneD, beqD, decide_true, decide_false, Bool.not_true, Bool.not_false, Bool.true_and, Bool.false_and, Bool.true_or, Bool.false_or])) (by unfold exC; (repeat first | rw [if_pos (by omega)] | rw [if_neg (by omega)])) (by unfold exE; rw [if_neg (by omega)]) (by omega) S3)
 refine J.c 6 [false] [] [] 85 (i.gOp = 15) (fun fk7 => ?_) fun fk7 => ?_
 ·skip
  refine J.c0 5 [true] [] [] S3 90 hb62 (truth_any (decide ((rs.getD ((i.gB).toNat) 0) < (rs.getD ((i.gC).toNat) 0))) _) fun w10 S10 => ?_
  exact J.t 3 (X1 (tr01 (decide ((rs.getD ((i.gB).toNat) 0) < (rs.getD ((i.gC).toNat) 0)))) cs w10 (by unfold exV; (repeat first | rw [if_pos (by omega)] | rw [if_neg (by omega)]) <;> (try simp only [bneD, beqD, decide_true, decide_false, Bool.not_true, Bool.not_false, Bool.true_and, Bool.false_and, Bool.true_or, Bool.false_or])) (by unfold exC; (repeat first | rw [if_pos (by omega)] | rw [if_neg (by omega)])) (by unfold exE; rw [if_neg (by omega)]) (by omega) S10)
 refine J.c 6 [false] [] [] 91 (i.gOp = 16) (fun fk8 => ?_) fun fk8 => ?_
 ·skip
  refine J.cn 5 [true] [] [] 95 ((rs.getD ((i.gB).toNat) 0) = 0) (fun fk9 => ?_) fun fk9 => ?_
  ·skip
   refine J.c0 3 [] [] [] S3 99 hb62 (truth_any false _) fun w11 S11 => ?_
   exact J.t 3 (X1 (tr01 false) cs w11 (by unfold exV; (repeat first | rw [if_pos (by omega)] | rw [if_neg (by omega)]) <;> (try simp only [bneD, beqD, decide_true, decide_false, Bool.not_true, Bool.not_false, Bool.true_and, Bool.false_and, Bool.true_or, Bool.false_or, fk9])) (by unfold exC; (repeat first | rw [if_pos (by omega)] | rw [if_neg (by omega)])) (by unfold exE; rw [if_neg (by omega)]) (by omega) S11)
  refine J.c0 3 [] [] [] S3 99 hb62 (truth_any ((rs.getD ((i.gC).toNat) 0) != 0) _) fun w12 S12 => ?_
  exact J.t 3 (X1 (tr01 ((rs.getD ((i.gC).toNat) 0) != 0)) cs w12 (by unfold exV; (repeat first | rw [if_pos (by omega)] | rw [if_neg (by omega)]) <;> (try simp only [bneD, beqD, decide_true, decide_false, Bool.not_true, Bool.not_false, Bool.true_and, Bool.false_and, Bool.true_or, Bool.false_or, fk9])) (by unfold exC; (repeat first | rw [if_pos (by omega)] | rw [if_neg (by omega)])) (by unfold exE; rw [if_neg (by omega)]) (by omega) S12)
 refine J.c 6 [false] [] [] 100 (i.gOp = 17) (fun fk10 => ?_) fun fk10 => ?_
 ·skip
  refine J.cn 5 [true] [] [] 104 ((rs.getD ((i.gB).toNat) 0) = 0) (fun fk11 => ?_) fun fk11 => ?_
  ·skip
   refine J.c0 3 [] [] [] S3 108 hb62 (truth_any ((rs.getD ((i.gC).toNat) 0) != 0) _) fun w13 S13 => ?_
   exact J.t 3 (X1 (tr01 ((rs.getD ((i.gC).toNat) 0) != 0)) cs w13 (by unfold exV; (repeat first | rw [if_pos (by omega)] | rw [if_neg (by omega)]) <;> (try simp only [bneD, beqD, decide_true, decide_false, Bool.not_true, Bool.not_false, Bool.true_and, Bool.false_and, Bool.true_or, Bool.false_or, fk11])) (by unfold exC; (repeat first | rw [if_pos (by omega)] | rw [if_neg (by omega)])) (by unfold exE; rw [if_neg (by omega)]) (by omega) S13)
  refine J.c0 3 [] [] [] S3 108 hb62 (truth_any true _) fun w14 S14 => ?_
  exact J.t 3 (X1 (tr01 true) cs w14 (by unfold exV; (repeat first | rw [if_pos (by omega)] | rw [if_neg (by omega)]) <;> (try simp only [bneD, beqD, decide_true, decide_false, Bool.not_true, Bool.not_false, Bool.true_and, Bool.false_and, Bool.true_or, Bool.false_or, fk11])) (by unfold exC; (repeat first | rw [if_pos (by omega)] | rw [if_neg (by omega)])) (by unfold exE; rw [if_neg (by omega)]) (by omega) S14)
 refine J.c 6 [false] [] [] 109 (i.gOp = 18) (fun fk12 => ?_) fun fk12 => ?_
 ·skip
  refine J.c0 4 [true] [] [] S3 113 hb62 (truth_any ((rs.getD ((i.gB).toNat) 0) == 0) _) fun w15 S15 => ?_
  exact J.t 3 (X1 (tr01 ((rs.getD ((i.gB).toNat) 0) == 0)) cs w15 (by unfold exV; (repeat first | rw [if_pos (by omega)] | rw [if_neg (by omega)]) <;> (try simp only [bneD, beqD, decide_true, decide_false, Bool.not_true, Bool.not_false, Bool.true_and, Bool.false_and, Bool.true_or, Bool.false_or])) (by unfold exC; (repeat first | rw [if_pos (by omega)] | rw [if_neg (by omega)])) (by unfold exE; rw [if_neg (by omega)]) (by omega) S15)
 refine J.c 6 [false] [] [] 114 (i.gOp = 19) (fun fk13 => ?_) fun fk13 => ?_
 ·skip
  refine J.r 7 [true] [(10, iv (rs.getD ((i.gC).toNat) 0))] [] ?_
  refine J.drawStill S3 8 Tryz.mixed (by kernel_rfl) (by kernel_rfl) (by kernel_rfl) ?_
  intro w16 S16
  refine SL.r 117 (pv bm) ?_
  refine SL.r 118 (.pointer (some ⟨b2, 4, none⟩)) ?_
  refine SL.lb S16 0 rfl 119 (iv i.gK) ?_
  refine SL.r 120 (pv bm) ?_
  refine SL.r 121 (pv bm) ?_
  refine SL.ok (by decide) (OK.indexP 122 29 16 1 bm 0 ((i.gK).toNat) i.gK (by kernel_rfl) (by kernel_rfl) (by omega) (by omega)) ?_
  refine SL.head (.pointer (some ⟨bm, (i.gK).toNat, none⟩)) (by first | rfl | (rw [Nat.zero_add, Nat.mul_one])) ?_
  refine SL.ok (by decide) (OK.ldMi S16 2 rfl 123 3 ((i.gK).toNat)) ?_
  refine SL.r 124 (.bool ((rs.getD ((i.gK).toNat) 0) != 0)) ?_
  refine SL.done ?_
  refine TL.done (by kernel_rfl) ?_
  refine J.cn 0 [] [] [] 124 ((rs.getD ((i.gK).toNat) 0) = 0) (fun fk14 => ?_) fun fk14 => ?_
  ·skip
   exact J.t 3 (X1 (rs.getD ((i.gC).toNat) 0) cs w16 (by unfold exV; (repeat first | rw [if_pos (by omega)] | rw [if_neg (by omega)]) <;> (try simp only [bneD, beqD, decide_true, decide_false, Bool.not_true, Bool.not_false, Bool.true_and, Bool.false_and, Bool.true_or, Bool.false_or, fk14])) (by unfold exC; (repeat first | rw [if_pos (by omega)] | rw [if_neg (by omega)])) (by unfold exE; rw [if_neg (by omega)]) (by omega) S16)
  exact J.t 6 (X1 (rs.getD ((i.gB).toNat) 0) cs w16 (by unfold exV; (repeat first | rw [if_pos (by omega)] | rw [if_neg (by omega)]) <;> (try simp only [bneD, beqD, decide_true, decide_false, Bool.not_true, Bool.not_false, Bool.true_and, Bool.false_and, Bool.true_or, Bool.false_or, fk14])) (by unfold exC; (repeat first | rw [if_pos (by omega)] | rw [if_neg (by omega)])) (by unfold exE; rw [if_neg (by omega)]) (by omega) S16)
 refine J.c 6 [false] [] [] 126 (i.gOp = 20) (fun fk15 => ?_) fun fk15 => ?_
 ·skip
  refine J.lb 3 [true] [] [] S3 1 rfl 129 (.slice p.gCurves_a p.gCurves_n p.gCurves_c) ?_
  refine J.lb 1 [] [] [] S3 0 rfl 131 (iv i.gK) ?_
  obtain ⟨p3, hp3, hc1⟩ := q8.at (⟨none, 0, 0, [], none, 0, 0, []⟩ : Crv) (i.gK).toNat (by omega)
  have hel1 := getD_Q q9 (⟨none, 0, 0, [], none, 0, 0, []⟩ : Crv) (n := (i.gK).toNat) (by have := q8.len_eq; omega)
  obtain ⟨q31, q32, q33, q34, q35, q36, _⟩ := id hel1
  have ql9 := q32.len_eq
  have ql10 := q35.len_eq
  refine J.ok (OK.index 132 24 2 p.gCurves_a p3 p.gCurves_n (i.gK).toNat i.gK (p3.add ((i.gK).toNat * 2)) (by kernel_rfl) (by kernel_rfl) hp3 (by omega) (by omega) rfl) ?_
  refine J.ok (OK.ldCells 133 66 (p3.add ((i.gK).toNat * 2)) (crvC (p.gCurves_l.getD (i.gK).toNat (⟨none, 0, 0, [], none, 0, 0, []⟩ : Crv))) (by kernel_rfl) (by kernel_rfl) (by kernel_rfl) (fun j_ v_ hj_ => S3.cell (hc1 j_ v_ hj_))) ?_
  refine J.c0 1 [] [] [] S3 135 hb63 (cAt_any (p.gCurves_l.getD (i.gK).toNat (⟨none, 0, 0, [], none, 0, 0, []⟩ : Crv)) (rs.getD ((i.gB).toNat) 0) _ (crvQ_sep hel1 S3)) fun w17 S17 => ?_
  exact J.t 3 (X1 (atV (p.gCurves_l.getD (i.gK).toNat (⟨none, 0, 0, [], none, 0, 0, []⟩ : Crv)) (rs.getD ((i.gB).toNat) 0)) cs w17 (by unfold exV; (repeat first | rw [if_pos (by omega)] | rw [if_neg (by omega)]) <;> (try simp only [bneD, beqD, decide_true, decide_false, Bool.not_true, Bool.not_false, Bool.true_and, Bool.false_and, Bool.true_or, Bool.false_or])) (by unfold exC; (repeat first | rw [if_pos (by omega)] | rw [if_neg (by omega)])) (by unfold exE; rw [if_neg (by omega)]) (by omega) S17)
 refine J.c 6 [false] [] [] 136 (i.gOp = 21) (fun fk16 => ?_) fun fk16 => ?_
 ·skip
  refine J.lb 3 [true] [] [] S3 1 rfl 139 (.slice p.gMaps_a p.gMaps_n p.gMaps_c) ?_
  refine J.lb 1 [] [] [] S3 0 rfl 141 (iv i.gK) ?_
  obtain ⟨p4, hp4, hc2⟩ := q11.at (⟨none, 0, 0, [], none, 0, 0, [], none, 0, 0, []⟩ : Mp) (i.gK).toNat (by omega)
  have hel2 := getD_Q q12 (⟨none, 0, 0, [], none, 0, 0, [], none, 0, 0, []⟩ : Mp) (n := (i.gK).toNat) (by have := q11.len_eq; omega)
  obtain ⟨q37, q38, q39, q40, q41, q42, q43, q44, q45, _⟩ := id hel2
  have ql11 := q38.len_eq
  have ql12 := q41.len_eq
  have ql13 := q44.len_eq
  refine J.ok (OK.index 142 25 3 p.gMaps_a p4 p.gMaps_n (i.gK).toNat i.gK (p4.add ((i.gK).toNat * 3)) (by kernel_rfl) (by kernel_rfl) hp4 (by omega) (by omega) rfl) ?_
  refine J.ok (OK.ldCells 143 62 (p4.add ((i.gK).toNat * 3)) (mpC (p.gMaps_l.getD (i.gK).toNat (⟨none, 0, 0, [], none, 0, 0, [], none, 0, 0, []⟩ : Mp))) (by kernel_rfl) (by kernel_rfl) (by kernel_rfl) (fun j_ v_ hj_ => S3.cell (hc2 j_ v_ hj_))) ?_
  refine J.c0 2 [] [] [] S3 146 hb64 (At_any (p.gMaps_l.getD (i.gK).toNat (⟨none, 0, 0, [], none, 0, 0, [], none, 0, 0, []⟩ : Mp)) (rs.getD ((i.gB).toNat) 0) (rs.getD ((i.gC).toNat) 0) _ (mpQ_sep hel2 S3)) fun w18 S18 => ?_
  exact J.t 3 (X1 (atF (p.gMaps_l.getD (i.gK).toNat (⟨none, 0, 0, [], none, 0, 0, [], none, 0, 0, []⟩ : Mp)) (rs.getD ((i.gB).toNat) 0) (rs.getD ((i.gC).toNat) 0)) cs w18 (by unfold exV; (repeat first | rw [if_pos (by omega)] | rw [if_neg (by omega)]) <;> (try simp only [bneD, beqD, decide_true, decide_false, Bool.not_true, Bool.not_false, Bool.true_and, Bool.false_and, Bool.true_or, Bool.false_or])) (by unfold exC; (repeat first | rw [if_pos (by omega)] | rw [if_neg (by omega)])) (by unfold exE; rw [if_neg (by omega)]) (by omega) S18)
 refine J.c 6 [false] [] [] 147 (i.gOp = 22) (fun fk17 => ?_) fun fk17 => ?_
 ·skip
  refine J.lb 3 [true] [(149, pv bm)] [] S3 0 rfl 150 (.agg (insA i)) ?_
  refine J.r 1 [] [(151, iv (rs.getD ((i.gB).toNat) 0))] [] ?_
  have S19 := S3.front 3 rfl
  have S20 : Sep w0 (box bm (mxC rs [.slice ra n rc]) 31 :: rowOf encI ra rc 3 1 cs :: box b2 (insC i) 48 :: box b1 (prgC p) 28 :: L0) w3 := S19.front 3 rfl
  refine J.callF 152 65 #[pv bm, .agg (insA i), iv (rs.getD ((i.gB).toNat) 0)] hb65 (by kernel_rfl) (lag_any bm rs ra n rc cs i (rs.getD ((i.gB).toNat) 0) _ _ _ S20 (by assumption) (by first | omega | (simp; omega)) hi (by omega)) ?_
  rintro _ w19 ⟨rfl, S21⟩
  replace S21 : Sep w0 (box bm (mxC rs [.slice ra n rc]) 31 :: rowOf encI ra rc 3 1 (lgC i cs (rs.getD ((i.gB).toNat) 0)) :: box b2 (insC i) 48 :: box b1 (prgC p) 28 :: L0) w19 := S21
  have S22 := S21.front 3 rfl
  have S23 : Sep w0 (box b2 (insC i) 48 :: box b1 (prgC p) 28 :: box bm (mxC rs [.slice ra n rc]) 31 :: rowOf encI ra rc 3 1 (lgC i cs (rs.getD ((i.gB).toNat) 0)) :: L0) w19 := S22.front 3 rfl
  exact J.t 3 (X1 (lgY i cs (rs.getD ((i.gB).toNat) 0)) (lgC i cs (rs.getD ((i.gB).toNat) 0)) w19 (by unfold exV; (repeat first | rw [if_pos (by omega)] | rw [if_neg (by omega)]) <;> (try simp only [bneD, beqD, decide_true, decide_false, Bool.not_true, Bool.not_false, Bool.true_and, Bool.false_and, Bool.true_or, Bool.false_or])) (by unfold exC; (repeat first | rw [if_pos (by omega)] | rw [if_neg (by omega)])) (by unfold exE; rw [if_neg (by omega)]) (by omega) S23)
 refine J.lb 3 [false] [] [] S3 1 rfl 37 (.agg (prgA p)) ?_
 refine J.lb 0 [] [] [] S3 0 rfl 38 (.agg (insA i)) ?_
 refine J.r 2 [] [(40, iv (rs.getD ((i.gC).toNat) 0)), (39, iv (rs.getD ((i.gB).toNat) 0))] [] ?_
 refine J.c0 0 [] [] [] S3 41 hb66 (arith_any p i (rs.getD ((i.gB).toNat) 0) (rs.getD ((i.gC).toNat) 0) _ (prgQ_sep hp S3) (insQ_sep hi S3) hv hf (by omega)) fun w20 S24 => ?_
 refine J.cn 12 [] [(12, iv (arE (i).gOp (tyB p (i).gOp (i).gK) (rs.getD ((i.gC).toNat) 0))), (11, iv (arV (i).gOp (tyA p (i).gOp (i).gK) (tyB p (i).gOp (i).gK) (tyC p (i).gOp (i).gK) (rs.getD ((i.gB).toNat) 0) (rs.getD ((i.gC).toNat) 0)))] [] 45 ((arE (i).gOp (tyB p (i).gOp (i).gK) (rs.getD ((i.gC).toNat) 0)) = 0) (fun fk18 => ?_) fun fk18 => ?_
 ·skip
  exact J.t 7 (X1 (arV (i).gOp (tyA p (i).gOp (i).gK) (tyB p (i).gOp (i).gK) (tyC p (i).gOp (i).gK) (rs.getD ((i.gB).toNat) 0) (rs.getD ((i.gC).toNat) 0)) cs w20 (by unfold exV; (repeat first | rw [if_pos (by omega)] | rw [if_neg (by omega)]) <;> (try simp only [bneD, beqD, decide_true, decide_false, Bool.not_true, Bool.not_false, Bool.true_and, Bool.false_and, Bool.true_or, Bool.false_or, fk18])) (by unfold exC; (repeat first | rw [if_pos (by omega)] | rw [if_neg (by omega)])) (by unfold exE; rw [if_pos (by omega)]; exact fk18) (by omega) S24)
 refine J.e 6 [iv (arE (i).gOp (tyB p (i).gOp (i).gK) (rs.getD ((i.gC).toNat) 0))] Tryz.func28 (hR _ _ ?_)
 have e0 : exE p i rs = arE (i).gOp (tyB p (i).gOp (i).gK) (rs.getD ((i.gC).toNat) 0) := by unfold exE; rw [if_pos (by omega)]
 have e1 : exR p i rs cs = rs := by unfold exR; rw [if_pos (by rw [e0]; omega)]
 have e2 : exC i rs cs = cs := by unfold exC; rw [if_neg (by omega), if_neg (by omega)]
 exact ⟨by rw [e0]; rfl, by rw [e1, e2]; exact ((S24.erase 0).erase 0)⟩

end
end Go.Proofs.YtaoolgcddapegaaGreatDoor

namespace Go.Proofs.YtaoolgcddapegaaGreatDoor
open Go.Eng Go.RowKit
set_option linter.unusedSimpArgs false
set_option linter.unusedVariables false
set_option maxRecDepth 20000
set_option maxHeartbeats 20000000
/-! laws of steps and runs -/
theorem exE_two (p : Prg) (i : Ins) (rs : List Int) : exE p i rs = 0 ∨ exE p i rs = 10 := by unfold exE arE; split <;> (try split) <;> simp
theorem rnE_two (p : Prg) (rs cs : List Int) : ∀ k, rnE p rs cs k = 0 ∨ rnE p rs cs k = 10
  | 0 => .inl rfl
  | k + 1 => by
    rw [rnE]; split
    · exact exE_two p _ _
    · exact rnE_two p rs cs k
theorem rn_step {p : Prg} {rs cs rl cl : List Int} {k : Nat} (hr : rl = (rnF p rs cs k).1) (hc : cl = (rnF p rs cs k).2) : exR p (p.gCode_l.getD k ins0) rl cl = (rnF p rs cs (k + 1)).1 ∧ exC (p.gCode_l.getD k ins0) rl cl = (rnF p rs cs (k + 1)).2 := by
  subst hr; subst hc; exact ⟨rfl, rfl⟩
theorem rn_err {p : Prg} {rs cs rl : List Int} {k : Nat} (hr : rl = (rnF p rs cs k).1) (he : rnE p rs cs k = 0) : rnE p rs cs (k + 1) = exE p (p.gCode_l.getD k ins0) rl := by
  subst hr; rw [rnE, if_pos he]; rfl
theorem rn_fin {p : Prg} {rs cs rl : List Int} {k n : Nat} {e : Int} (hr : rl = (rnF p rs cs k).1) (he : rnE p rs cs k = 0) (hx : exE p (p.gCode_l.getD k ins0) rl = e) (hz : e ≠ 0) (hk : k < n) : rnE p rs cs n = e := by
  rw [rnE_stop (k := k + 1) (by rw [rn_err hr he, hx]; exact hz) n hk, rn_err hr he, hx]
theorem outC_succ {p : Prg} {cs : List Int} {k : Nat} (h : k < p.gOutputs_l.length) : outC p cs (k + 1) = outC p cs k ++ [cs.getD (p.gOutputs_l.getD k 0).toNat 0] := by
  unfold outC
  rw [List.take_add_one, List.map_append, List.getElem?_eq_getElem h, List.getD_eq_getElem?_getD (l := p.gOutputs_l), List.getElem?_eq_getElem h]; rfl
theorem outC_len {p : Prg} {cs : List Int} {k : Nat} (h : k ≤ p.gOutputs_l.length) : (outC p cs k).length = k := by
  unfold outC; rw [List.length_map, List.length_take]; omega
theorem outC_at {p : Prg} {cs : List Int} {n k : Nat} (hn : n ≤ p.gOutputs_l.length) (h : k < n) : (outC p cs n).getD k 0 = cs.getD (p.gOutputs_l.getD k 0).toNat 0 := by
  unfold outC
  rw [List.getD_eq_getElem?_getD, List.getElem?_map, List.getElem?_take, if_pos h, List.getElem?_eq_getElem (show k < p.gOutputs_l.length by omega), List.getD_eq_getElem?_getD (l := p.gOutputs_l), List.getElem?_eq_getElem (show k < p.gOutputs_l.length by omega)]; rfl
theorem rg_in {p : Prg} {n : Nat} {l xs : List Int} (hv : validP p = true) (hn : (n : Int) = p.gCells) (hx : xs.length = p.gInputs_n) : rgE p n l xs = rnE p zR (inC p l xs p.gInputs_n) p.gCode_n := by
  unfold rgE; rw [goodP_iff.2 ⟨hv, hn⟩, decide_eq_true hx]; rfl
theorem rg_out {p : Prg} {n : Nat} {l xs : List Int} (h : goodP p n = false ∨ xs.length ≠ p.gInputs_n) : rgE p n l xs = 1 := by
  unfold rgE
  rcases h with h | h
  · rw [h]; rfl
  · rw [decide_eq_false h, Bool.and_false]; rfl
theorem rg_ne {p : Prg} {n : Nat} {l xs : List Int} (h : ¬ rgE p n l xs = 1) : validP p = true ∧ (n : Int) = p.gCells ∧ xs.length = p.gInputs_n := by
  cases hg : goodP p n with
  | false => exact absurd (rg_out (.inl hg)) h
  | true =>
    by_cases hx : xs.length = p.gInputs_n
    · exact ⟨(goodP_iff.1 hg).1, (goodP_iff.1 hg).2, hx⟩
    · exact absurd (rg_out (.inr hx)) h
theorem rg_one {p : Prg} {n : Nat} {l xs : List Int} (h : rgE p n l xs = 1) : ¬ (validP p = true ∧ (n : Int) = p.gCells ∧ xs.length = p.gInputs_n) := by
  rintro ⟨h1, h2, h3⟩
  rw [rg_in h1 h2 h3] at h
  have := rnE_two p zR (inC p l xs p.gInputs_n) p.gCode_n
  omega
theorem st_arg {p : Prg} {n : Nat} {rs : List Int} {k : Int} (h : goodP p n = false) : stE p n rs k = 1 := by unfold stE; rw [h]; rfl
theorem st_rng {p : Prg} {n : Nat} {rs : List Int} {k : Int} (h : goodP p n = true) (hk : k < 0 ∨ (p.gCode_n : Int) ≤ k) : stE p n rs k = 2 := by unfold stE; rw [h, if_pos rfl, if_pos hk]
theorem st_run {p : Prg} {n : Nat} {rs : List Int} {k : Int} (h : goodP p n = true) (h0 : 0 ≤ k) (h1 : k < (p.gCode_n : Int)) : stE p n rs k = exE p (p.gCode_l.getD k.toNat ins0) rs := by unfold stE; rw [h, if_pos rfl, if_neg (by omega)]; rfl
theorem list16 {l : List Int} (h : l.length = 16) : ∃ a b c d e f g i j k m n o q r t, l = [a, b, c, d, e, f, g, i, j, k, m, n, o, q, r, t] := by
  rcases l with _ | ⟨a, _ | ⟨b, _ | ⟨c, _ | ⟨d, _ | ⟨e, _ | ⟨f, _ | ⟨g, _ | ⟨i, _ | ⟨j, _ | ⟨k, _ | ⟨m, _ | ⟨n, _ | ⟨o, _ | ⟨q, _ | ⟨r, _ | ⟨t, _ | ⟨u, l⟩⟩⟩⟩⟩⟩⟩⟩⟩⟩⟩⟩⟩⟩⟩⟩⟩ <;> simp at h
  exact ⟨a, b, c, d, e, f, g, i, j, k, m, n, o, q, r, t, rfl⟩

theorem hb27 : HasBody Tryz.prog 27 := fun _ _ => by kernel_rfl

theorem copyof_any (rs : List Int) (la : Option Addr) (n c : Nat) (cs : List Int) (w : World) (hrs : rs.length = 16) (hI : Ints w la n cs) (hnb : n ≤ 4096) : Ret Tryz.prog 27 #[.agg (mxA rs [.slice la n c])] w (fun v w' => ∃ a cap, v = .agg (mxA rs [.slice a cs.length cap]) ∧ Sep w [rowOf encI a cap 3 1 cs] w') := by
 refine Ret.st (N := 8) Tryz.func27 fun R hR S0 => ?_
 have hcl := hI.len_eq
 refine J.r 2 [] [] [] ?_
 refine J.new S0 1 (mxC rs [.slice la n c]) 31 (by kernel_rfl) ?_
 intro b1 w1 S1
 refine J.new S1 2 (mxC (List.replicate 16 (0 : Int)) [.slice none 0 0]) 31 (by kernel_rfl) ?_
 intro b2 w2 S2
 refine J.r 4 [] [(3, .pointer (some ⟨b1, 16, none⟩))] [] ?_
 refine J.ok (OK.ldMt S2 1 rfl 4 26 16 (by assumption)) ?_
 refine J.cf 0 [] [] [] 5 hb61 (clone_any la n c cs _ (hI.sep S2) (by omega) (by omega)) ?_
 rintro _ w3 ⟨ra1, rc1, rfl, T1⟩
 have S3 : Sep w [rowOf encI ra1 rc1 3 1 cs, box b2 (mxC (List.replicate 16 (0 : Int)) [.slice none 0 0]) 31, box b1 (mxC rs [.slice la n c]) 31] w3 := S2.trans T1
 refine J.r 1 [] [(6, .pointer (some ⟨b1, 16, none⟩))] [] ?_
 refine J.stMt S3 2 rfl 26 16 ra1 cs.length rc1 rfl (by assumption) fun w4 S4 => ?_
 refine J.r 3 [] [] [] ?_
 refine J.ok (OK.ldM S4 2 rfl 7 31 16 (by assumption)) ?_
 refine J.stM S4 1 rfl 16 rs [.slice ra1 cs.length rc1] rfl rfl (by assumption) fun w5 S5 => ?_
 refine J.r 1 [] [] [] ?_
 refine J.ret Tryz.f27 [.agg (mxA rs [.slice ra1 cs.length rc1])] Tryz.func27 ⟨⟨⟨b2, 0, none⟩, by kernel_rfl, ldV_run (S5.nth 1 rfl) (ldV_ma (n := 16) (by kernel_rfl) (by kernel_rfl) (by assumption))⟩, trivial⟩ ?_
 refine hR _ _ ?_
 exact ⟨_, _, rfl, S5.pick 0 rfl⟩

theorem hb14 : HasBody Tryz.prog 14 := fun _ _ => by kernel_rfl

theorem rcopy_any (rs : List Int) (la : Option Addr) (n c : Nat) (cs : List Int) (w : World) (hrs : rs.length = 16) (hI : Ints w la n cs) (hnb : n ≤ 4096) : Ret Tryz.prog 14 #[.agg (mxA rs [.slice la n c])] w (fun v w' => ∃ a cap, v = .agg (mxA rs [.slice a cs.length cap]) ∧ Sep w [rowOf encI a cap 3 1 cs] w') := by
 refine Ret.st (N := 9) Tryz.func14 fun R hR S0 => ?_
 have hcl := hI.len_eq
 refine J.r 2 [] [] [] ?_
 refine J.new S0 1 (mxC rs [.slice la n c]) 31 (by kernel_rfl) ?_
 intro b1 w1 S1
 refine J.new S1 2 (mxC (List.replicate 16 (0 : Int)) [.slice none 0 0]) 31 (by kernel_rfl) ?_
 intro b2 w2 S2
 refine J.r 3 [] [] [] ?_
 refine J.newSlice S2 3 0 [] 3 (by kernel_rfl) ?_
 intro b3 w3 S3
 refine J.r 1 [] [(4, .pointer (some ⟨b1, 16, none⟩))] [] ?_
 refine J.ok (OK.ldMt S3 2 rfl 5 26 16 (by assumption)) ?_
 have S4 : Sep w [rowOf encI (some ⟨b3, 0, none⟩) 0 3 1 ([]), box b2 (mxC (List.replicate 16 (0 : Int)) [.slice none 0 0]) 31, box b1 (mxC rs [.slice la n c]) 31] w3 := box_row encI S3 0 [] 1 rfl rfl rfl (by simp [maxLen]) (.inr trivial)
 have hz1 := hI.sep S4
 have := hz1.len_eq
 refine J.appendN encI S4 0 ([]) cs n (by first | omega | (simp; omega)) 6 26 (iv 0) 8 la c rfl (by kernel_rfl) (by kernel_rfl) (by kernel_rfl) (by kernel_rfl) (by decide) (hI.sep S4).enc (fun h_ => Ones.nil (h_ ▸ hz1)) (fun _ => rfl) (fun _ => rfl) (⟨by first | omega | (simp; omega), by first | omega | (simp; omega)⟩) ?_
 intro ra1 rc1 w4 S5
 replace S5 : Sep w [rowOf encI ra1 rc1 3 1 cs, box b2 (mxC (List.replicate 16 (0 : Int)) [.slice none 0 0]) 31, box b1 (mxC rs [.slice la n c]) 31] w4 := S5
 refine J.r 1 [] [(7, .pointer (some ⟨b1, 16, none⟩))] [] ?_
 refine J.stMt S5 2 rfl 26 16 ra1 cs.length rc1 rfl (by assumption) fun w5 S6 => ?_
 refine J.r 3 [] [] [] ?_
 refine J.ok (OK.ldM S6 2 rfl 8 31 16 (by assumption)) ?_
 refine J.stM S6 1 rfl 16 rs [.slice ra1 cs.length rc1] rfl rfl (by assumption) fun w6 S7 => ?_
 refine J.r 1 [] [] [] ?_
 refine J.ret Tryz.f14 [.agg (mxA rs [.slice ra1 cs.length rc1])] Tryz.func14 ⟨⟨⟨b2, 0, none⟩, by kernel_rfl, ldV_run (S7.nth 1 rfl) (ldV_ma (n := 16) (by kernel_rfl) (by kernel_rfl) (by assumption))⟩, trivial⟩ ?_
 refine hR _ _ ?_
 exact ⟨_, _, rfl, S7.pick 0 rfl⟩

theorem hb26 : HasBody Tryz.prog 26 := fun _ _ => by kernel_rfl

theorem good_any (p : Prg) (rs : List Int) (la : Option Addr) (n c : Nat) (w : World) (hrs : rs.length = 16) (hp : prgQ w p) : Ret Tryz.prog 26 #[.agg (prgA p), .agg (mxA rs [.slice la n c])] w (fun v w' => v = .bool (goodP p n) ∧ Sep w [] w') := by
 refine Ret.st (N := 15) Tryz.func26 fun R hR S0 => ?_
 obtain ⟨q1, q2, q3, q4, q5, q6, q7, q8, q9, q10, q11, q12, q13, q14, q15, q16, q17, q18, q19, q20, q21, q22, q23, q24, q25, _⟩ := id hp
 have ql1 := q2.len_eq
 have ql2 := q5.len_eq
 have ql3 := q8.len_eq
 have ql4 := q11.len_eq
 have ql5 := q15.len_eq
 have ql6 := q18.len_eq
 have ql7 := q21.len_eq
 have ql8 := q24.len_eq
 refine J.nw 2 [] [] [] S0 2 (prgC p) 28 fun b1 w1 S1 => ?_
 refine J.new S1 3 (mxC rs [.slice la n c]) 31 (by kernel_rfl) ?_
 intro b2 w2 S2
 refine J.lb 4 [] [] [] S2 1 rfl 5 (.agg (prgA p)) ?_
 refine J.c0 0 [] [] [] S2 6 hb60 (pvalid_any p _ (prgQ_sep hp S2)) fun w3 S3 => ?_
 refine J.b 1 [] [] [] 7 (validP p) (fun fk1 => ?_) fun fk1 => ?_
 ·skip
  refine J.r 1 [] [(8, .pointer (some ⟨b2, 16, none⟩))] [] ?_
  refine J.ok (OK.ldMt S3 0 rfl 9 26 16 (by assumption)) ?_
  refine J.lb 2 [] [(10, iv (n : Int))] [] S3 1 rfl 12 (iv p.gCells) ?_
  refine J.e 4 [.bool ((n : Int) == p.gCells)] Tryz.func26 (hR _ _ ?_)
  exact ⟨congrArg Value.bool (by unfold goodP; rw [fk1]; first | rfl | (rw [Bool.true_and, Bool.eq_iff_iff]; simp)), S3.nil⟩
 refine J.e 9 [.bool false] Tryz.func26 (hR _ _ ?_)
 exact ⟨congrArg Value.bool (by unfold goodP; rw [fk1]; rfl), S3.nil⟩

end Go.Proofs.YtaoolgcddapegaaGreatDoor

namespace Go.Proofs.YtaoolgcddapegaaGreatDoor
open Go.Eng Go.RowKit
set_option linter.unusedSimpArgs false
set_option linter.unusedVariables false
set_option maxRecDepth 20000
set_option maxHeartbeats 20000000
theorem hb15 : HasBody Tryz.prog 15 := fun _ _ => by kernel_rfl

theorem step_any (p : Prg) (rs : List Int) (la : Option Addr) (n c : Nat) (cs : List Int) (k : Int) (w : World) (hrs : rs.length = 16) (hp : prgQ w p) (hI : Ints w la n cs) (hnb : n ≤ 4096) : Ret Tryz.prog 15 #[.agg (prgA p), .agg (mxA rs [.slice la n c]), iv k] w (fun v w' => ∃ a cap, v = .tuple #[.agg (mxA (stR p n rs cs k) [.slice a (stC p n rs cs k).length cap]), iv (stN p n rs k), iv (stE p n rs k)] ∧ Sep w [rowOf encI a cap 3 1 (stC p n rs cs k)] w') := by
 refine Ret.st (N := 44) Tryz.func15 fun R hR S0 => ?_
 obtain ⟨q1, q2, q3, q4, q5, q6, q7, q8, q9, q10, q11, q12, q13, q14, q15, q16, q17, q18, q19, q20, q21, q22, q23, q24, q25, _⟩ := id hp
 have ql1 := q2.len_eq
 have ql2 := q5.len_eq
 have ql3 := q8.len_eq
 have ql4 := q11.len_eq
 have ql5 := q15.len_eq
 have ql6 := q18.len_eq
 have ql7 := q21.len_eq
 have ql8 := q24.len_eq
 have hcl := hI.len_eq
 refine J.nw 2 [] [] [] S0 3 (prgC p) 28 fun b1 w1 S1 => ?_
 refine J.new S1 4 (mxC rs [.slice la n c]) 31 (by kernel_rfl) ?_
 intro b2 w2 S2
 refine J.new S2 6 (mxC (List.replicate 16 (0 : Int)) [.slice none 0 0]) 31 (by kernel_rfl) ?_
 intro b3 w3 S3
 refine J.lb 7 [] [] [] S3 2 rfl 12 (.agg (prgA p)) ?_
 refine J.ok (OK.ldM S3 1 rfl 13 31 16 (by assumption)) ?_
 refine J.c0 0 [] [] [] S3 14 hb26 (good_any p rs la n c _ (by assumption) (prgQ_sep hp S3)) fun w4 S4 => ?_
 refine J.bn 3 [] [] [] 11 (goodP p n) (fun fk1 => ?_) fun fk1 => ?_
 ·skip
  have hv := (goodP_iff.1 fk1).1
  have hgn := (goodP_iff.1 fk1).2
  have hfi := fun (j : Nat) (hj : j < p.gCode_l.length) => code_at hv hj
  have hcz := (validP_facts hv).1
  refine J.c 6 [false] [] [] 20 (k < 0) (fun fk2 => ?_) fun fk2 => ?_
  ·skip
   refine J.r 12 [true] [(27, .agg #[iv 0, iv 0, iv 0, iv 0, iv 0, iv 0, iv 0, iv 0, iv 0, iv 0, iv 0, iv 0, iv 0, iv 0, iv 0, iv 0, .slice none 0 0])] [] ?_
   refine J.stM S4 0 rfl 16 (List.replicate 16 (0 : Int)) [.slice none 0 0] rfl rfl rfl fun w5 S5 => ?_
   refine J.r 3 [] [(8, iv 2), (7, iv 0)] [] ?_
   refine J.ret Tryz.f15 [.agg (mxA (List.replicate 16 (0 : Int)) [.slice none 0 0]), iv 0, iv 2] Tryz.func15 ⟨⟨⟨b3, 0, none⟩, by kernel_rfl, ldV_run (S5.nth 0 rfl) (ldV_ma (n := 16) (by kernel_rfl) (by kernel_rfl) rfl)⟩, by kernel_rfl, by kernel_rfl, trivial⟩ ?_
   refine hR _ _ ?_
   have e0 : stE p n rs k = 2 := st_rng fk1 (by omega)
   obtain ⟨e1, e2, e3⟩ := st_bad (cs := cs) e0 (by omega)
   exact ⟨none, 0, by rw [e0, e1, e2, e3]; rfl, by rw [e2]; exact S5.nil.nilRow 3 1⟩
  refine J.lb 2 [] [(21, iv k)] [] S4 2 rfl 23 (.slice p.gCode_a p.gCode_n p.gCode_c) ?_
  refine J.c 5 [] [] [] 17 (k ≥ (p.gCode_n : Int)) (fun fk3 => ?_) fun fk3 => ?_
  ·skip
   refine J.r 4 [true] [(27, .agg #[iv 0, iv 0, iv 0, iv 0, iv 0, iv 0, iv 0, iv 0, iv 0, iv 0, iv 0, iv 0, iv 0, iv 0, iv 0, iv 0, .slice none 0 0])] [] ?_
   refine J.stM S4 0 rfl 16 (List.replicate 16 (0 : Int)) [.slice none 0 0] rfl rfl rfl fun w6 S6 => ?_
   refine J.r 3 [] [(8, iv 2), (7, iv 0)] [] ?_
   refine J.ret Tryz.f15 [.agg (mxA (List.replicate 16 (0 : Int)) [.slice none 0 0]), iv 0, iv 2] Tryz.func15 ⟨⟨⟨b3, 0, none⟩, by kernel_rfl, ldV_run (S6.nth 0 rfl) (ldV_ma (n := 16) (by kernel_rfl) (by kernel_rfl) rfl)⟩, by kernel_rfl, by kernel_rfl, trivial⟩ ?_
   refine hR _ _ ?_
   have e0 : stE p n rs k = 2 := st_rng fk1 (by omega)
   obtain ⟨e1, e2, e3⟩ := st_bad (cs := cs) e0 (by omega)
   exact ⟨none, 0, by rw [e0, e1, e2, e3]; rfl, by rw [e2]; exact S6.nil.nilRow 3 1⟩
  refine J.r 5 [false] [] [] ?_
  refine J.ok (OK.ldM S4 1 rfl 28 31 16 (by assumption)) ?_
  refine J.cf 0 [] [] [] 29 hb27 (copyof_any rs la n c cs _ (by assumption) (hI.sep S4) (by omega)) ?_
  rintro _ w7 ⟨ra1, rc1, rfl, T1⟩
  have S7 : Sep w [rowOf encI ra1 rc1 3 1 cs, box b3 (mxC (List.replicate 16 (0 : Int)) [.slice none 0 0]) 31, box b2 (mxC rs [.slice la n c]) 31, box b1 (prgC p) 28] w7 := S4.trans T1
  refine J.new S7 9 (mxC (List.replicate 16 (0 : Int)) [.slice none 0 0]) 31 (by kernel_rfl) ?_
  intro b4 w8 S8
  refine J.stM S8 0 rfl 16 rs [.slice ra1 cs.length rc1] rfl rfl (by assumption) fun w9 S9 => ?_
  refine J.r 3 [] [] [] ?_
  obtain ⟨p1, hp1, hc1⟩ := q2.at ins0 (k).toNat (by omega)
  have hel1 := getD_Q q3 ins0 (n := (k).toNat) (by have := q2.len_eq; omega)
  obtain ⟨q26, q27, q28, q29, q30, _⟩ := id hel1
  refine J.drawTail S9 6 Tryz.mixed (by kernel_rfl) (by kernel_rfl) ?_
  intro w10 S10
  refine SL.lb S10 4 rfl 30 (.agg (prgA p)) ?_
  refine SL.r 31 (pv b1) ?_
  refine SL.lb S10 4 rfl 32 (.slice p.gCode_a p.gCode_n p.gCode_c) ?_
  refine SL.r 33 (iv k) ?_
  refine SL.ok (by decide) (OK.index 34 22 5 p.gCode_a p1 p.gCode_n (k).toNat k (p1.add ((k).toNat * 5)) (by kernel_rfl) (by kernel_rfl) hp1 (by omega) (by omega) rfl) ?_
  refine SL.ok (by decide) (OK.ldCells 35 48 (p1.add ((k).toNat * 5)) (insC (p.gCode_l.getD (k).toNat ins0)) (by kernel_rfl) (by kernel_rfl) (by kernel_rfl) (fun j_ v_ hj_ => S10.cell (hc1 j_ v_ hj_))) ?_
  refine SL.done ?_
  refine TL.callF 36 28 #[.agg (prgA p), pv b4, .agg (insA (p.gCode_l.getD (k).toNat ins0))] hb28 (by kernel_rfl) (execute_any p (p.gCode_l.getD (k).toNat ins0) b4 rs ra1 cs.length rc1 cs _ _ _ S10 (by assumption) (by first | omega | (simp; omega)) hp hel1 hv (by first | exact hf | exact hfi _ (by omega)) (by omega)) ?_
  rintro _ w11 ⟨rfl, S11⟩
  replace S11 : Sep w [box b4 (mxC (exR p (p.gCode_l.getD (k).toNat ins0) rs cs) [.slice ra1 cs.length rc1]) 31, rowOf encI ra1 rc1 3 1 (exC (p.gCode_l.getD (k).toNat ins0) rs cs), box b3 (mxC (List.replicate 16 (0 : Int)) [.slice none 0 0]) 31, box b2 (mxC rs [.slice la n c]) 31, box b1 (prgC p) 28] w11 := S11
  clear S10
  have hxr : (exR p (p.gCode_l.getD (k).toNat ins0) rs cs).length = 16 := (exR_len _ _ _ _).trans (by first | assumption | omega)
  have hxc : (exC (p.gCode_l.getD (k).toNat ins0) rs cs).length = cs.length := (exC_len _ _ _).trans (by first | assumption | omega)
  refine TL.r 10 (iv (exE p (p.gCode_l.getD (k).toNat ins0) rs)) ?_
  refine TL.done (by kernel_rfl) ?_
  refine J.cn 5 [] [] [] 38 ((exE p (p.gCode_l.getD (k).toNat ins0) rs) = 0) (fun fk4 => ?_) fun fk4 => ?_
  ·skip
   refine J.r 4 [false] [] [] ?_
   refine J.ok (OK.ldM S11 0 rfl 41 31 16 (by assumption)) ?_
   refine J.wi 2 [] [] [] 43 (k + 1) ?_
   refine J.stM S11 2 rfl 16 (exR p (p.gCode_l.getD (k).toNat ins0) rs cs) [.slice ra1 cs.length rc1] rfl rfl (by assumption) fun w12 S12 => ?_
   refine J.r 3 [] [(8, iv 0), (7, iv (k + 1))] [] ?_
   refine J.ret Tryz.f15 [.agg (mxA (exR p (p.gCode_l.getD (k).toNat ins0) rs cs) [.slice ra1 cs.length rc1]), iv (k + 1), iv 0] Tryz.func15 ⟨⟨⟨b3, 0, none⟩, by kernel_rfl, ldV_run (S12.nth 2 rfl) (ldV_ma (n := 16) (by kernel_rfl) (by kernel_rfl) (by assumption))⟩, by kernel_rfl, by kernel_rfl, trivial⟩ ?_
   refine hR _ _ ?_
   have e4 : stE p n rs k = 0 := (st_run (rs := rs) (k := k) fk1 (by omega) (by omega)).trans fk4
   obtain ⟨e1, e2, e3⟩ := st_ok (cs := cs) e4
   exact ⟨_, _, by rw [e1, e2, e3, e4, exC_len]; rfl, by rw [e2]; exact S12.pick 1 rfl⟩
  refine J.r 5 [true] [(40, iv (exE p (p.gCode_l.getD (k).toNat ins0) rs)), (39, .agg #[iv 0, iv 0, iv 0, iv 0, iv 0, iv 0, iv 0, iv 0, iv 0, iv 0, iv 0, iv 0, iv 0, iv 0, iv 0, iv 0, .slice none 0 0])] [] ?_
  refine J.stM S11 2 rfl 16 (List.replicate 16 (0 : Int)) [.slice none 0 0] rfl rfl rfl fun w13 S13 => ?_
  refine J.r 3 [] [(8, iv (exE p (p.gCode_l.getD (k).toNat ins0) rs)), (7, iv 0)] [] ?_
  refine J.ret Tryz.f15 [.agg (mxA (List.replicate 16 (0 : Int)) [.slice none 0 0]), iv 0, iv (exE p (p.gCode_l.getD (k).toNat ins0) rs)] Tryz.func15 ⟨⟨⟨b3, 0, none⟩, by kernel_rfl, ldV_run (S13.nth 2 rfl) (ldV_ma (n := 16) (by kernel_rfl) (by kernel_rfl) rfl)⟩, by kernel_rfl, by kernel_rfl, trivial⟩ ?_
  refine hR _ _ ?_
  have e0 : stE p n rs k = exE p (p.gCode_l.getD (k).toNat ins0) rs := st_run fk1 (by omega) (by omega)
  obtain ⟨e1, e2, e3⟩ := st_bad (cs := cs) e0 (by omega)
  exact ⟨none, 0, by rw [e0, e1, e2, e3]; rfl, by rw [e2]; exact S13.nil.nilRow 3 1⟩
 refine J.r 4 [true] [(16, .agg #[iv 0, iv 0, iv 0, iv 0, iv 0, iv 0, iv 0, iv 0, iv 0, iv 0, iv 0, iv 0, iv 0, iv 0, iv 0, iv 0, .slice none 0 0])] [] ?_
 refine J.stM S4 0 rfl 16 (List.replicate 16 (0 : Int)) [.slice none 0 0] rfl rfl rfl fun w14 S14 => ?_
 refine J.r 3 [] [(8, iv 1), (7, iv 0)] [] ?_
 refine J.ret Tryz.f15 [.agg (mxA (List.replicate 16 (0 : Int)) [.slice none 0 0]), iv 0, iv 1] Tryz.func15 ⟨⟨⟨b3, 0, none⟩, by kernel_rfl, ldV_run (S14.nth 0 rfl) (ldV_ma (n := 16) (by kernel_rfl) (by kernel_rfl) rfl)⟩, by kernel_rfl, by kernel_rfl, trivial⟩ ?_
 refine hR _ _ ?_
 have e0 : stE p n rs k = 1 := st_arg fk1
 obtain ⟨e1, e2, e3⟩ := st_bad (cs := cs) e0 (by omega)
 exact ⟨none, 0, by rw [e0, e1, e2, e3]; rfl, by rw [e2]; exact S14.nil.nilRow 3 1⟩

end Go.Proofs.YtaoolgcddapegaaGreatDoor

namespace Go.Proofs.YtaoolgcddapegaaGreatDoor
noncomputable section
open Go.Eng Go.RowKit
set_option linter.unusedSimpArgs false
set_option linter.unusedVariables false
set_option maxRecDepth 20000
set_option maxHeartbeats 20000000
theorem hb9 : HasBody Tryz.prog 9 := fun _ _ => by kernel_rfl
def K9_0 := adv 49 [false] (bodyOf Tryz.f9)
def K9_1 := adv 17 [false] K9_0
def K9_2 := adv 21 [false] K9_1
theorem run_any (p : Prg) (rs : List Int) (la : Option Addr) (n c : Nat) (cs : List Int) (ia : Option Addr) (m ic : Nat) (xs : List Int) (w : World) (hrs : rs.length = 16) (hp : prgQ w p) (hI : Ints w la n cs) (hJ : Ints w ia m xs) (hnb : n ≤ 4096) : Ret Tryz.prog 9 #[.agg (prgA p), .agg (mxA rs [.slice la n c]), .slice ia m ic] w (fun v w' => ∃ a cap oa oc, v = .tuple #[.agg (mxA (runR p n cs xs) [.slice a (runC p n cs xs).length cap]), .slice oa (runO p n cs xs).length oc, iv (rgE p n cs xs)] ∧ Sep w [rowOf encI a cap 3 1 (runC p n cs xs), rowOf encI oa oc 3 1 (runO p n cs xs)] w') := by
 refine Ret.st (N := 85) Tryz.func9 fun R hR S0 => ?_
 obtain ⟨q1, q2, q3, q4, q5, q6, q7, q8, q9, q10, q11, q12, q13, q14, q15, q16, q17, q18, q19, q20, q21, q22, q23, q24, q25, _⟩ := id hp
 have ql1 := q2.len_eq
 have ql2 := q5.len_eq
 have ql3 := q8.len_eq
 have ql4 := q11.len_eq
 have ql5 := q15.len_eq
 have ql6 := q18.len_eq
 have ql7 := q21.len_eq
 have ql8 := q24.len_eq
 have hcl := hI.len_eq
 have hxl := hJ.len_eq
 refine J.nw 2 [] [] [] S0 3 (prgC p) 28 fun b1 w1 S1 => ?_
 refine J.new S1 4 (mxC rs [.slice la n c]) 31 (by kernel_rfl) ?_
 intro b2 w2 S2
 refine J.new S2 6 (mxC (List.replicate 16 (0 : Int)) [.slice none 0 0]) 31 (by kernel_rfl) ?_
 intro b3 w3 S3
 refine J.lb 6 [] [] [] S3 2 rfl 18 (.agg (prgA p)) ?_
 refine J.ok (OK.ldM S3 1 rfl 19 31 16 (by assumption)) ?_
 refine J.c0 0 [] [] [] S3 20 hb26 (good_any p rs la n c _ (by assumption) (prgQ_sep hp S3)) fun w4 S4 => ?_
 refine J.bn 2 [] [] [] 22 (goodP p n) (fun fk1 => ?_) fun fk1 => ?_
 ·skip
  have hv := (goodP_iff.1 fk1).1
  have hgn := (goodP_iff.1 fk1).2
  have hfi := fun (j : Nat) (hj : j < p.gCode_l.length) => code_at hv hj
  have hcz := (validP_facts hv).1
  obtain ⟨hv1, hv2, hv3, hv4, hv5, hv6, hv7, hv8, hv9, hv10, hv11⟩ := validP_facts hv
  have hin := (cellsL_at hv6).2
  have hou := (cellsL_at hv7).2
  have hon1 := (cellsL_at hv7).1
  have hin1 := (cellsL_at hv6).1
  refine J.lb 3 [] [(24, iv (m : Int))] [] S4 2 rfl 26 (.slice p.gInputs_a p.gInputs_n p.gInputs_c) ?_
  refine J.cn 4 [] [] [] 29 ((m : Int) = (p.gInputs_n : Int)) (fun fk2 => ?_) fun fk2 => ?_
  ·skip
   refine J.r 4 [false] [] [] ?_
   refine J.ok (OK.ldM S4 1 rfl 31 31 16 (by assumption)) ?_
   refine J.cf 0 [] [] [] 32 hb27 (copyof_any rs la n c cs _ (by assumption) (hI.sep S4) (by omega)) ?_
   rintro _ w5 ⟨ra1, rc1, rfl, T1⟩
   have S5 : Sep w [rowOf encI ra1 rc1 3 1 cs, box b3 (mxC (List.replicate 16 (0 : Int)) [.slice none 0 0]) 31, box b2 (mxC rs [.slice la n c]) 31, box b1 (prgC p) 28] w5 := S4.trans T1
   refine J.new S5 9 (mxC (List.replicate 16 (0 : Int)) [.slice none 0 0]) 31 (by kernel_rfl) ?_
   intro b4 w6 S6
   refine J.stM S6 0 rfl 16 rs [.slice ra1 cs.length rc1] rfl rfl (by assumption) fun w7 S7 => ?_
   refine J.r 5 [] [(34, pv b4), (33, .agg #[iv 0, iv 0, iv 0, iv 0, iv 0, iv 0, iv 0, iv 0, iv 0, iv 0, iv 0, iv 0, iv 0, iv 0, iv 0, iv 0])] [] ?_
   refine J.stBox S7 0 29 0 (.agg #[iv 0, iv 0, iv 0, iv 0, iv 0, iv 0, iv 0, iv 0, iv 0, iv 0, iv 0, iv 0, iv 0, iv 0, iv 0, iv 0]) (mxC (List.replicate 16 (0 : Int)) [.slice ra1 cs.length rc1]) [box b4 (mxC (List.replicate 16 (0 : Int)) [.slice ra1 cs.length rc1]) 31, rowOf encI ra1 rc1 3 1 cs, box b3 (mxC (List.replicate 16 (0 : Int)) [.slice none 0 0]) 31, box b2 (mxC rs [.slice la n c]) 31, box b1 (prgC p) 28] (by kernel_rfl) rfl (by kernel_rfl) (stV_mr (l' := List.replicate 16 (0 : Int)) (List.length_replicate.trans (by first | exact Eq.symm (by assumption) | rfl | simp))) rfl ?_
   intro w8 S8
   refine J.lb 5 [] [] [] S8 4 rfl 36 (.slice p.gInputs_a p.gInputs_n p.gInputs_c) ?_
   have L9_1 : ∀ (mm_ : Nat) (cl : List Int) (k : Int) (w9 : World), (0 ≤ k) → (k ≤ (p.gInputs_n : Int)) → (cl = inC p cs xs (k).toNat) → Sep w [box b4 (mxC (List.replicate 16 (0 : Int)) [.slice ra1 cs.length rc1]) 31, rowOf encI ra1 rc1 3 1 cl, box b3 (mxC (List.replicate 16 (0 : Int)) [.slice none 0 0]) 31, box b2 (mxC rs [.slice la n c]) 31, box b1 (prgC p) 28] w9 → ((p.gInputs_n : Int) - k).toNat = mm_ → J Tryz.prog 9 85 R K9_0 [(38, iv k), (37, iv (p.gInputs_n : Int)), (36, .slice p.gInputs_a p.gInputs_n p.gInputs_c), (9, pv b4), (6, pv b3), (3, pv b1), (2, .slice ia m ic)] w9 := by
    intro mm1
    induction mm1 using Nat.strongRecOn with
    | _ mm1 ih1 =>
    intro cl k w9 k0 k1 hcl2 S9 hm1
    have hcn : cl.length = n := by rw [hcl2, inC_len]; exact hcl
    have hik : k < (p.gInputs_n : Int) → _ := fun h_ => hin k.toNat (by omega)
    refine J.c 5 [] [] [] 39 (k < (p.gInputs_n : Int)) (fun fk3 => ?_) fun fk3 => ?_
    ·skip
     refine J.r 7 [true] [(40, iv k)] [] ?_
     obtain ⟨p1, hp1, hc1⟩ := q15.at 0 (k).toNat (by omega)
     have hel1 := getD_Q q16 0 (n := (k).toNat) (by have := q15.len_eq; omega)
     refine J.ok (OK.index 41 26 1 p.gInputs_a p1 p.gInputs_n (k).toNat k (p1.add (k).toNat) (by kernel_rfl) (by kernel_rfl) hp1 (by omega) (by omega) (by rw [Nat.mul_one])) ?_
     refine J.ok (OK.ldCell 42 3 (p1.add (k).toNat) (iv (p.gInputs_l.getD (k).toNat 0)) (by kernel_rfl) (by kernel_rfl) (S9.cell hc1)) ?_
     refine J.r 3 [] [(11, iv (p.gInputs_l.getD (k).toNat 0)), (10, iv k)] [] ?_
     obtain ⟨p2, hp2, hc2⟩ := hJ.at 0 (k).toNat (by omega)
     obtain ⟨p3, hp3⟩ := row1_addr (S9.nth 1 rfl) (show 0 < (cl).length by first | omega | (simp; omega))
     refine J.drawTail S9 8 Tryz.mixed (by kernel_rfl) (by kernel_rfl) ?_
     intro w10 S10
     refine SL.r 43 (.pointer (some ⟨b4, 16, none⟩)) ?_
     refine SL.ok (by decide) (OK.ldMt S10 0 rfl 44 26 16 rfl) ?_
     refine SL.r 45 (iv (p.gInputs_l.getD (k).toNat 0)) ?_
     refine SL.r 46 (.slice ia m ic) ?_
     refine SL.r 47 (iv k) ?_
     refine SL.ok (by decide) (OK.index 48 26 1 ia p2 m (k).toNat k (p2.add (k).toNat) (by kernel_rfl) (by kernel_rfl) hp2 (by omega) (by omega) (by rw [Nat.mul_one])) ?_
     refine SL.ok (by decide) (OK.ldCell 49 3 (p2.add (k).toNat) (iv (xs.getD (k).toNat 0)) (by kernel_rfl) (by kernel_rfl) (S10.cell hc2)) ?_
     refine SL.ok (by decide) (OK.index 50 26 1 ra1 p3 cs.length (p.gInputs_l.getD (k).toNat 0).toNat (p.gInputs_l.getD (k).toNat 0) (p3.add (p.gInputs_l.getD (k).toNat 0).toNat) (by kernel_rfl) (by kernel_rfl) hp3 (by omega) (by first | omega | (simp; omega)) (by rw [Nat.mul_one])) ?_
     refine SL.done ?_
     refine TL.stRow1 (Value.int .i64) (int_one _) S10 1 cl 3 p3 (p.gInputs_l.getD (k).toNat 0).toNat (xs.getD (k).toNat 0) rfl (by kernel_rfl) hp3 (by first | omega | (simp; omega)) (by kernel_rfl) ?_
     intro w11 S11
     replace S11 : Sep w [box b4 (mxC (List.replicate 16 (0 : Int)) [.slice ra1 cs.length rc1]) 31, rowOf encI ra1 rc1 3 1 (cl.set (p.gInputs_l.getD (k).toNat 0).toNat (xs.getD (k).toNat 0)), box b3 (mxC (List.replicate 16 (0 : Int)) [.slice none 0 0]) 31, box b2 (mxC rs [.slice la n c]) 31, box b1 (prgC p) 28] w11 := S11
     refine TL.done (by kernel_rfl) ?_
     refine J.wi 3 [] [] [] 51 (k + 1) ?_
     exact J.t 3 (ih1 _ (show ((p.gInputs_n : Int) - (k + 1)).toNat < mm1 from by omega) (cl.set (p.gInputs_l.getD (k).toNat 0).toNat (xs.getD (k).toNat 0)) (k + 1) w11 (by omega) (by omega) (by rw [show (k + 1).toNat = k.toNat + 1 by omega, inC, ← hcl2]) S11 rfl)
    refine J.lb 6 [false] [] [] S9 4 rfl 53 (.slice p.gCode_a p.gCode_n p.gCode_c) ?_
    have L9_2 : ∀ (mm_ : Nat) (rl : List Int) (cl : List Int) (k : Int) (w12 : World), (0 ≤ k) → (k ≤ (p.gCode_n : Int)) → (rl = (rnF p zR (inC p cs xs p.gInputs_n) (k).toNat).1) → (cl = (rnF p zR (inC p cs xs p.gInputs_n) (k).toNat).2) → (rnE p zR (inC p cs xs p.gInputs_n) (k).toNat = 0) → Sep w [box b4 (mxC rl [.slice ra1 cs.length rc1]) 31, rowOf encI ra1 rc1 3 1 cl, box b3 (mxC (List.replicate 16 (0 : Int)) [.slice none 0 0]) 31, box b2 (mxC rs [.slice la n c]) 31, box b1 (prgC p) 28] w12 → ((p.gCode_n : Int) - k).toNat = mm_ → J Tryz.prog 9 85 R K9_1 [(55, iv k), (54, iv (p.gCode_n : Int)), (53, .slice p.gCode_a p.gCode_n p.gCode_c), (9, pv b4), (6, pv b3), (3, pv b1)] w12 := by
     intro mm2
     induction mm2 using Nat.strongRecOn with
     | _ mm2 ih2 =>
     intro rl cl k w12 k0 k1 hrl hcl2 he S12 hm2
     have hrn : rl.length = 16 := by rw [hrl, (rnF_len _ _ _ _).1]; rfl
     have hcn : cl.length = n := by rw [hcl2, (rnF_len _ _ _ _).2, inC_len]; exact hcl
     refine J.c 5 [] [] [] 56 (k < (p.gCode_n : Int)) (fun fk4 => ?_) fun fk4 => ?_
     ·skip
      refine J.r 6 [true] [] [] ?_
      obtain ⟨p4, hp4, hc3⟩ := q2.at ins0 (k).toNat (by omega)
      have hel2 := getD_Q q3 ins0 (n := (k).toNat) (by have := q2.len_eq; omega)
      obtain ⟨q26, q27, q28, q29, q30, _⟩ := id hel2
      refine J.ok (OK.index 57 22 5 p.gCode_a p4 p.gCode_n (k).toNat k (p4.add ((k).toNat * 5)) (by kernel_rfl) (by kernel_rfl) hp4 (by omega) (by omega) rfl) ?_
      refine J.ok (OK.ldCells 58 48 (p4.add ((k).toNat * 5)) (insC (p.gCode_l.getD (k).toNat ins0)) (by kernel_rfl) (by kernel_rfl) (by kernel_rfl) (fun j_ v_ hj_ => S12.cell (hc3 j_ v_ hj_))) ?_
      refine J.nw 0 [] [] [] S12 13 [iv 0, iv 0, iv 0, iv 0, iv 0] 48 fun b5 w13 S13 => ?_
      refine J.sb 0 [] [] [] S13 0 rfl (insC (p.gCode_l.getD (k).toNat ins0)) rfl fun w14 S14 => ?_
      refine J.lb 3 [] [] [] S14 5 rfl 59 (.agg (prgA p)) ?_
      refine J.lb 0 [] [] [] S14 0 rfl 60 (.agg (insA (p.gCode_l.getD (k).toNat ins0))) ?_
      have S15 := S14.front 2 rfl
      have S16 : Sep w [box b4 (mxC rl [.slice ra1 cs.length rc1]) 31, rowOf encI ra1 rc1 3 1 cl, box b5 (insC (p.gCode_l.getD (k).toNat ins0)) 48, box b3 (mxC (List.replicate 16 (0 : Int)) [.slice none 0 0]) 31, box b2 (mxC rs [.slice la n c]) 31, box b1 (prgC p) 28] w14 := S15.front 2 rfl
      refine J.callF 61 28 #[.agg (prgA p), pv b4, .agg (insA (p.gCode_l.getD (k).toNat ins0))] hb28 (by kernel_rfl) (execute_any p (p.gCode_l.getD (k).toNat ins0) b4 rl ra1 cs.length rc1 cl _ _ _ S16 (by assumption) (by first | omega | (simp; omega)) hp hel2 hv (by first | exact hf | exact hfi _ (by omega)) (by omega)) ?_
      rintro _ w15 ⟨rfl, S17⟩
      replace S17 : Sep w [box b4 (mxC (exR p (p.gCode_l.getD (k).toNat ins0) rl cl) [.slice ra1 cs.length rc1]) 31, rowOf encI ra1 rc1 3 1 (exC (p.gCode_l.getD (k).toNat ins0) rl cl), box b5 (insC (p.gCode_l.getD (k).toNat ins0)) 48, box b3 (mxC (List.replicate 16 (0 : Int)) [.slice none 0 0]) 31, box b2 (mxC rs [.slice la n c]) 31, box b1 (prgC p) 28] w15 := S17
      have S18 : Sep w [box b5 (insC (p.gCode_l.getD (k).toNat ins0)) 48, box b4 (mxC (exR p (p.gCode_l.getD (k).toNat ins0) rl cl) [.slice ra1 cs.length rc1]) 31, rowOf encI ra1 rc1 3 1 (exC (p.gCode_l.getD (k).toNat ins0) rl cl), box b3 (mxC (List.replicate 16 (0 : Int)) [.slice none 0 0]) 31, box b2 (mxC rs [.slice la n c]) 31, box b1 (prgC p) 28] w15 := S17.front 2 rfl
      have hxr : (exR p (p.gCode_l.getD (k).toNat ins0) rl cl).length = 16 := (exR_len _ _ _ _).trans (by first | assumption | omega)
      have hxc : (exC (p.gCode_l.getD (k).toNat ins0) rl cl).length = cs.length := (exC_len _ _ _).trans (by first | assumption | omega)
      refine J.cn 7 [] [(14, iv (exE p (p.gCode_l.getD (k).toNat ins0) rl))] [] 63 ((exE p (p.gCode_l.getD (k).toNat ins0) rl) = 0) (fun fk5 => ?_) fun fk5 => ?_
      ·skip
       refine J.wi 5 [false] [] [] 66 (k + 1) ?_
       exact J.t 3 (ih2 _ (show ((p.gCode_n : Int) - (k + 1)).toNat < mm2 from by omega) (exR p (p.gCode_l.getD (k).toNat ins0) rl cl) (exC (p.gCode_l.getD (k).toNat ins0) rl cl) (k + 1) w15 (by omega) (by omega) (by rw [show (k + 1).toNat = k.toNat + 1 by omega]; exact (rn_step hrl hcl2).1) (by rw [show (k + 1).toNat = k.toNat + 1 by omega]; exact (rn_step hrl hcl2).2) (by rw [show (k + 1).toNat = k.toNat + 1 by omega, rn_err hrl he]; exact fk5) (S18.erase 0) rfl)
      refine J.r 5 [true] [(65, iv (exE p (p.gCode_l.getD (k).toNat ins0) rl)), (64, .agg #[iv 0, iv 0, iv 0, iv 0, iv 0, iv 0, iv 0, iv 0, iv 0, iv 0, iv 0, iv 0, iv 0, iv 0, iv 0, iv 0, .slice none 0 0])] [] ?_
      refine J.stM S18 3 rfl 16 (List.replicate 16 (0 : Int)) [.slice none 0 0] rfl rfl rfl fun w16 S19 => ?_
      refine J.r 3 [] [(8, iv (exE p (p.gCode_l.getD (k).toNat ins0) rl)), (7, .slice none 0 0)] [] ?_
      refine J.ret Tryz.f9 [.agg (mxA (List.replicate 16 (0 : Int)) [.slice none 0 0]), .slice none 0 0, iv (exE p (p.gCode_l.getD (k).toNat ins0) rl)] Tryz.func9 ⟨⟨⟨b3, 0, none⟩, by kernel_rfl, ldV_run (S19.nth 3 rfl) (ldV_ma (n := 16) (by kernel_rfl) (by kernel_rfl) rfl)⟩, by kernel_rfl, by kernel_rfl, trivial⟩ ?_
      refine hR _ _ ?_
      have e0 : rgE p n cs xs = exE p (p.gCode_l.getD (k).toNat ins0) rl := (rg_in hv hgn (by omega)).trans (rn_fin hrl he rfl fk5 (by omega))
      obtain ⟨e1, e2, e3⟩ := run_bad e0 (by omega)
      exact ⟨none, 0, none, 0, by rw [e0, e1, e2, e3]; rfl, by rw [e2, e3]; exact (S19.nil.nilRow 3 1).nilRow 3 1⟩
     refine J.lb 10 [false] [(15, .slice none 0 0)] [] S12 4 rfl 68 (.slice p.gOutputs_a p.gOutputs_n p.gOutputs_c) ?_
     have S20 : Sep w [rowOf encI none 0 3 1 ([]), box b4 (mxC rl [.slice ra1 cs.length rc1]) 31, rowOf encI ra1 rc1 3 1 cl, box b3 (mxC (List.replicate 16 (0 : Int)) [.slice none 0 0]) 31, box b2 (mxC rs [.slice la n c]) 31, box b1 (prgC p) 28] w12 := S12.nilRow 3 1
     have L9_3 : ∀ (mm_ : Nat) (ol : List Int) (oa : Option Addr) (oc : Nat) (k2 : Int) (w17 : World), (0 ≤ k2) → (k2 ≤ (p.gOutputs_n : Int)) → (ol = outC p cl (k2).toNat) → Sep w [rowOf encI oa oc 3 1 ol, box b4 (mxC rl [.slice ra1 cs.length rc1]) 31, rowOf encI ra1 rc1 3 1 cl, box b3 (mxC (List.replicate 16 (0 : Int)) [.slice none 0 0]) 31, box b2 (mxC rs [.slice la n c]) 31, box b1 (prgC p) 28] w17 → ((p.gOutputs_n : Int) - k2).toNat = mm_ → J Tryz.prog 9 85 R K9_2 [(70, iv k2), (69, iv (p.gOutputs_n : Int)), (68, .slice p.gOutputs_a p.gOutputs_n p.gOutputs_c), (15, .slice oa ol.length oc), (9, pv b4), (6, pv b3)] w17 := by
      intro mm3
      induction mm3 using Nat.strongRecOn with
      | _ mm3 ih3 =>
      intro ol oa oc k2 w17 j0 j1 hol S21 hm3
      have hon : ol.length = k2.toNat := by rw [hol]; exact outC_len (by omega)
      have hok : k2 < (p.gOutputs_n : Int) → _ := fun h_ => hou k2.toNat (by omega)
      refine J.c 5 [] [] [] 71 (k2 < (p.gOutputs_n : Int)) (fun fk6 => ?_) fun fk6 => ?_
      ·skip
       refine J.r 6 [true] [] [] ?_
       obtain ⟨p5, hp5, hc4⟩ := q21.at 0 (k2).toNat (by omega)
       have hel3 := getD_Q q22 0 (n := (k2).toNat) (by have := q21.len_eq; omega)
       refine J.ok (OK.index 72 26 1 p.gOutputs_a p5 p.gOutputs_n (k2).toNat k2 (p5.add (k2).toNat) (by kernel_rfl) (by kernel_rfl) hp5 (by omega) (by omega) (by rw [Nat.mul_one])) ?_
       refine J.ok (OK.ldCell 73 3 (p5.add (k2).toNat) (iv (p.gOutputs_l.getD (k2).toNat 0)) (by kernel_rfl) (by kernel_rfl) (S21.cell hc4)) ?_
       refine J.r 5 [] [(75, .pointer (some ⟨b4, 16, none⟩)), (74, .slice oa ol.length oc), (17, iv (p.gOutputs_l.getD (k2).toNat 0))] [] ?_
       refine J.ok (OK.ldMt S21 1 rfl 76 26 16 (by assumption)) ?_
       refine J.r 1 [] [(77, iv (p.gOutputs_l.getD (k2).toNat 0))] [] ?_
       obtain ⟨p6, hp6⟩ := row1_addr (S21.nth 2 rfl) (show 0 < (cl).length by first | omega | (simp; omega))
       refine J.ok (OK.index 78 26 1 ra1 p6 cs.length (p.gOutputs_l.getD (k2).toNat 0).toNat (p.gOutputs_l.getD (k2).toNat 0) (p6.add (p.gOutputs_l.getD (k2).toNat 0).toNat) (by kernel_rfl) (by kernel_rfl) hp6 (by omega) (by first | omega | (simp; omega)) (by rw [Nat.mul_one])) ?_
       refine J.ok (OK.ldCell 79 3 (p6.add (p.gOutputs_l.getD (k2).toNat 0).toNat) (iv (cl.getD (p.gOutputs_l.getD (k2).toNat 0).toNat 0)) (by kernel_rfl) (by kernel_rfl) (row1_cell (g := (Value.int .i64)) S21 2 rfl hp6 0 (p.gOutputs_l.getD (k2).toNat 0).toNat (by first | omega | (simp; omega)))) ?_
       refine J.newSlice S21 80 1 [iv (cl.getD (p.gOutputs_l.getD (k2).toNat 0).toNat 0)] 3 (by kernel_rfl) ?_
       intro b6 w18 S22
       refine J.append encI S22 1 ol (cl.getD (p.gOutputs_l.getD (k2).toNat 0).toNat 0) 81 26 (iv 0) 8 ⟨b6, 0, none⟩ 1 rfl (by kernel_rfl) (by kernel_rfl) (by kernel_rfl) (by kernel_rfl) (by decide) (box_cells (S22.nth 0 rfl)) (by kernel_rfl) (by kernel_rfl) (⟨by omega, by omega⟩) ?_
       intro ra2 rc2 w19 S23
       replace S23 : Sep w [box b6 [iv (cl.getD (p.gOutputs_l.getD (k2).toNat 0).toNat 0)] 3, rowOf encI ra2 rc2 3 1 (ol ++ [cl.getD (p.gOutputs_l.getD (k2).toNat 0).toNat 0]), box b4 (mxC rl [.slice ra1 cs.length rc1]) 31, rowOf encI ra1 rc1 3 1 cl, box b3 (mxC (List.replicate 16 (0 : Int)) [.slice none 0 0]) 31, box b2 (mxC rs [.slice la n c]) 31, box b1 (prgC p) 28] w19 := S23
       refine J.wi 5 [] [(15, .slice ra2 ((ol ++ [cl.getD (p.gOutputs_l.getD (k2).toNat 0).toNat 0]).length) rc2)] [] 82 (k2 + 1) ?_
       exact J.t 3 (ih3 _ (show ((p.gOutputs_n : Int) - (k2 + 1)).toNat < mm3 from by omega) (ol ++ [cl.getD (p.gOutputs_l.getD (k2).toNat 0).toNat 0]) ra2 rc2 (k2 + 1) w19 (by omega) (by omega) (by rw [show (k2 + 1).toNat = k2.toNat + 1 by omega, outC_succ (by omega), ← hol]) (S23.erase 0) rfl)
      refine J.r 4 [false] [] [] ?_
      refine J.ok (OK.ldM S21 1 rfl 83 31 16 (by assumption)) ?_
      refine J.r 1 [] [(84, .slice oa ol.length oc)] [] ?_
      refine J.stM S21 3 rfl 16 rl [.slice ra1 cs.length rc1] rfl rfl (by assumption) fun w20 S24 => ?_
      refine J.r 3 [] [(8, iv 0), (7, .slice oa ol.length oc)] [] ?_
      refine J.ret Tryz.f9 [.agg (mxA rl [.slice ra1 cs.length rc1]), .slice oa ol.length oc, iv 0] Tryz.func9 ⟨⟨⟨b3, 0, none⟩, by kernel_rfl, ldV_run (S24.nth 3 rfl) (ldV_ma (n := 16) (by kernel_rfl) (by kernel_rfl) (by assumption))⟩, by kernel_rfl, by kernel_rfl, trivial⟩ ?_
      refine hR _ _ ?_
      have e4 : rgE p n cs xs = 0 := (rg_in hv hgn (by omega)).trans (by rw [show p.gCode_n = k.toNat by omega]; exact he)
      obtain ⟨e1, e2, e3⟩ := run_ok e4
      have e5 : rgS p cs xs = (rl, cl) := by unfold rgS; rw [show p.gCode_n = k.toNat by omega, hrl, hcl2]
      have e6 : outC p cl p.gOutputs_n = ol := by rw [hol, show p.gOutputs_n = k2.toNat by omega]
      rw [e5] at e1 e2 e3
      rw [e6] at e3
      exact ⟨_, _, _, _, by rw [e1, e2, e3, e4, hcn, ← hcl]; rfl, by rw [e2, e3]; exact S24.two 0 2 rfl rfl (by decide)⟩
     exact J.t 5 (L9_3 _ ([]) none 0 0 w12 (by omega) (by omega) (rfl) S20 rfl)
    exact J.t 5 (L9_2 _ (List.replicate 16 (0 : Int)) cl 0 w9 (by omega) (by omega) (rfl) (hcl2.trans (by rw [show k.toNat = p.gInputs_n by omega]; rfl)) (rfl) S9 rfl)
   exact J.t 5 (L9_1 _ cs 0 w8 (by omega) (by omega) (rfl) S8 rfl)
  refine J.r 4 [true] [(30, .agg #[iv 0, iv 0, iv 0, iv 0, iv 0, iv 0, iv 0, iv 0, iv 0, iv 0, iv 0, iv 0, iv 0, iv 0, iv 0, iv 0, .slice none 0 0])] [] ?_
  refine J.stM S4 0 rfl 16 (List.replicate 16 (0 : Int)) [.slice none 0 0] rfl rfl rfl fun w21 S25 => ?_
  refine J.r 3 [] [(8, iv 1), (7, .slice none 0 0)] [] ?_
  refine J.ret Tryz.f9 [.agg (mxA (List.replicate 16 (0 : Int)) [.slice none 0 0]), .slice none 0 0, iv 1] Tryz.func9 ⟨⟨⟨b3, 0, none⟩, by kernel_rfl, ldV_run (S25.nth 0 rfl) (ldV_ma (n := 16) (by kernel_rfl) (by kernel_rfl) rfl)⟩, by kernel_rfl, by kernel_rfl, trivial⟩ ?_
  refine hR _ _ ?_
  have e0 : rgE p n cs xs = 1 := rg_out (.inr (by omega))
  obtain ⟨e1, e2, e3⟩ := run_bad e0 (by omega)
  exact ⟨none, 0, none, 0, by rw [e0, e1, e2, e3]; rfl, by rw [e2, e3]; exact (S25.nil.nilRow 3 1).nilRow 3 1⟩
 refine J.r 12 [true] [(30, .agg #[iv 0, iv 0, iv 0, iv 0, iv 0, iv 0, iv 0, iv 0, iv 0, iv 0, iv 0, iv 0, iv 0, iv 0, iv 0, iv 0, .slice none 0 0])] [] ?_
 refine J.stM S4 0 rfl 16 (List.replicate 16 (0 : Int)) [.slice none 0 0] rfl rfl rfl fun w22 S26 => ?_
 refine J.r 3 [] [(8, iv 1), (7, .slice none 0 0)] [] ?_
 refine J.ret Tryz.f9 [.agg (mxA (List.replicate 16 (0 : Int)) [.slice none 0 0]), .slice none 0 0, iv 1] Tryz.func9 ⟨⟨⟨b3, 0, none⟩, by kernel_rfl, ldV_run (S26.nth 0 rfl) (ldV_ma (n := 16) (by kernel_rfl) (by kernel_rfl) rfl)⟩, by kernel_rfl, by kernel_rfl, trivial⟩ ?_
 refine hR _ _ ?_
 have e0 : rgE p n cs xs = 1 := rg_out (.inl fk1)
 obtain ⟨e1, e2, e3⟩ := run_bad e0 (by omega)
 exact ⟨none, 0, none, 0, by rw [e0, e1, e2, e3]; rfl, by rw [e2, e3]; exact (S26.nil.nilRow 3 1).nilRow 3 1⟩

end
end Go.Proofs.YtaoolgcddapegaaGreatDoor

