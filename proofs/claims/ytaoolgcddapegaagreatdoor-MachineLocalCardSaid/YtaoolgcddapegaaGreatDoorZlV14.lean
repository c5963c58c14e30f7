/- Walks of functions of this seat, printed by a program over the engine. Conditions: as each theorem says. -/
import Derived.Test.YtaoolgcddapegaaGreatDoorZlV10
namespace Go.Proofs.YtaoolgcddapegaaGreatDoor
open Go.Eng Go.RowKit
set_option linter.unusedSimpArgs false
set_option linter.unusedVariables false
set_option maxRecDepth 20000
set_option maxHeartbeats 20000000
abbrev kvV14_1 : List Value := [iv 0, iv 0, iv 0, iv 0, iv 0]
abbrev kvV14_2 : Array Value := #[iv 0, iv 0, iv 0, iv 0, iv 0]
structure Unt where
  gM : Int
  gKg : Int
  gS : Int
  gA : Int
  gK : Int
abbrev untC (x : Unt) : List Value := [iv x.gM, iv x.gKg, iv x.gS, iv x.gA, iv x.gK]
abbrev untA (x : Unt) : Array Value := #[iv x.gM, iv x.gKg, iv x.gS, iv x.gA, iv x.gK]
structure Fxd where
  gBits : Int
  gSigned : Bool
  gNum : Int
  gOff : Int
  gDen : Int
  gUnit_M : Int
  gUnit_Kg : Int
  gUnit_S : Int
  gUnit_A : Int
  gUnit_K : Int
def fxdE (x : Fxd) : List Value := [iv x.gBits, .bool x.gSigned, iv x.gNum, iv x.gOff, iv x.gDen, iv x.gUnit_M, iv x.gUnit_Kg, iv x.gUnit_S, iv x.gUnit_A, iv x.gUnit_K]
def fxdQ (w : World) (x : Fxd) : Prop := ((-9223372036854775808) ≤ x.gBits ∧ x.gBits ≤ 9223372036854775807) ∧ ((-9223372036854775808) ≤ x.gNum ∧ x.gNum ≤ 9223372036854775807) ∧ ((-9223372036854775808) ≤ x.gOff ∧ x.gOff ≤ 9223372036854775807) ∧ ((-9223372036854775808) ≤ x.gDen ∧ x.gDen ≤ 9223372036854775807) ∧ ((-9223372036854775808) ≤ x.gUnit_M ∧ x.gUnit_M ≤ 9223372036854775807) ∧ ((-9223372036854775808) ≤ x.gUnit_Kg ∧ x.gUnit_Kg ≤ 9223372036854775807) ∧ ((-9223372036854775808) ≤ x.gUnit_S ∧ x.gUnit_S ≤ 9223372036854775807) ∧ ((-9223372036854775808) ≤ x.gUnit_A ∧ x.gUnit_A ≤ 9223372036854775807) ∧ ((-9223372036854775808) ≤ x.gUnit_K ∧ x.gUnit_K ≤ 9223372036854775807) ∧ True
theorem fxdQ_sep {w0 w : World} {L : List Eng.Claim} {x : Fxd} (h : fxdQ w0 x) (S : Sep w0 L w) : fxdQ w x := by
  obtain ⟨hgBits, hgNum, hgOff, hgDen, hgUnit_M, hgUnit_Kg, hgUnit_S, hgUnit_A, hgUnit_K, _⟩ := h
  exact ⟨hgBits, hgNum, hgOff, hgDen, hgUnit_M, hgUnit_Kg, hgUnit_S, hgUnit_A, hgUnit_K, trivial⟩
abbrev fxdC (x : Fxd) : List Value := [iv x.gBits, .bool x.gSigned, iv x.gNum, iv x.gOff, iv x.gDen, iv x.gUnit_M, iv x.gUnit_Kg, iv x.gUnit_S, iv x.gUnit_A, iv x.gUnit_K]
abbrev fxdA (x : Fxd) : Array Value := #[iv x.gBits, .bool x.gSigned, iv x.gNum, iv x.gOff, iv x.gDen, iv x.gUnit_M, iv x.gUnit_Kg, iv x.gUnit_S, iv x.gUnit_A, iv x.gUnit_K]
/-! layers 2 and 3: units and types; layer 13: what a valid program is -/
abbrev unP (m kg s a k : Int) : Prop := (-9 ≤ m ∧ m ≤ 9) ∧ (-9 ≤ kg ∧ kg ≤ 9) ∧ (-9 ≤ s ∧ s ≤ 9) ∧ (-9 ≤ a ∧ a ≤ 9) ∧ (-9 ≤ k ∧ k ≤ 9)
def unB (u : Unt) : Bool := decide (unP u.gM u.gKg u.gS u.gA u.gK)
theorem unB_iff {u : Unt} : unB u = true ↔ unP u.gM u.gKg u.gS u.gA u.gK := by unfold unB; exact decide_eq_true_iff
abbrev un0 : Unt := ⟨0, 0, 0, 0, 0⟩
def unC (a b : Unt) (s : Int) : Unt := ⟨a.gM + s * b.gM, a.gKg + s * b.gKg, a.gS + s * b.gS, a.gA + s * b.gA, a.gK + s * b.gK⟩
def unX (a b : Unt) (s : Int) : Unt := if unB a && unB b && unB (unC a b s) then unC a b s else un0
def unE (a b : Unt) (s : Int) : Int := if unB a && unB b then (if unB (unC a b s) then 0 else 2) else 1
theorem un_bad {a b : Unt} {s : Int} (h : unB a = false ∨ unB b = false) : unX a b s = un0 ∧ unE a b s = 1 := by
  unfold unX unE; rcases h with h | h <;> rw [h] <;> simp
theorem un_out {a b : Unt} {s : Int} (ha : unB a = true) (hb : unB b = true) (h : unB (unC a b s) = false) : unX a b s = un0 ∧ unE a b s = 2 := by
  unfold unX unE; rw [ha, hb, h]; simp
theorem un_in {a b : Unt} {s : Int} (ha : unB a = true) (hb : unB b = true) (h : unB (unC a b s) = true) : unX a b s = unC a b s ∧ unE a b s = 0 := by
  unfold unX unE; rw [ha, hb, h]; simp
def unEq (a b : Unt) : Bool := (a.gM == b.gM) && ((a.gKg == b.gKg) && ((a.gS == b.gS) && ((a.gA == b.gA) && (a.gK == b.gK))))
abbrev fixP (bits num off den m kg s a k : Int) : Prop := (bits = 8 ∨ bits = 16 ∨ bits = 32) ∧ (1 ≤ num ∧ num ≤ 1048576) ∧ (1 ≤ den ∧ den ≤ 1048576) ∧ (-1073741824 ≤ off ∧ off ≤ 1073741824) ∧ unP m kg s a k
def fixB (t : Fxd) : Bool := decide (fixP t.gBits t.gNum t.gOff t.gDen t.gUnit_M t.gUnit_Kg t.gUnit_S t.gUnit_A t.gUnit_K)
theorem fixB_iff {t : Fxd} : fixB t = true ↔ fixP t.gBits t.gNum t.gOff t.gDen t.gUnit_M t.gUnit_Kg t.gUnit_S t.gUnit_A t.gUnit_K := by unfold fixB; exact decide_eq_true_iff
def unitT (t : Fxd) : Unt := ⟨t.gUnit_M, t.gUnit_Kg, t.gUnit_S, t.gUnit_A, t.gUnit_K⟩
abbrev fx0 : Fxd := ⟨0, false, 0, 0, 0, 0, 0, 0, 0, 0⟩
def unitsB (op : Int) (a b t : Unt) : Bool :=
  if op = 5 ∨ op = 6 then unEq a b && unEq a t else if op = 7 then (unE a b 1 == 0) && unEq (unX a b 1) t else if op = 8 then (unE a b (-1) == 0) && unEq (unX a b (-1)) t else if op = 9 ∨ op = 10 then unEq a t else unEq a b

theorem hb185 : HasBody Tryz.prog 185 := fun _ _ => by kernel_rfl

theorem expo_any (b : Nat) (w : World) : Ret Tryz.prog 185 #[pv b] w (fun v w' => v = .agg #[pv b, .pointer (some ⟨b, 1, none⟩), .pointer (some ⟨b, 2, none⟩), .pointer (some ⟨b, 3, none⟩), .pointer (some ⟨b, 4, none⟩)] ∧ Sep w [] w') := by
 refine Ret.st (N := 19) Tryz.func185 fun R hR S0 => ?_
 refine J.nw 2 [] [] [] S0 2 [.pointer none, .pointer none, .pointer none, .pointer none, .pointer none] 204 fun b1 w1 S1 => ?_
 refine J.r 2 [] [] [] ?_
 refine J.drawTail S1 16 Tryz.mixed (by kernel_rfl) (by kernel_rfl) ?_
 intro w2 S2
 refine SL.r 3 (pv b) ?_
 refine SL.r 4 (pv b) ?_
 refine SL.r 5 (pv b) ?_
 refine SL.r 6 (pv b) ?_
 refine SL.r 7 (pv b) ?_
 refine SL.r 8 (.pointer (some ⟨b, 1, none⟩)) ?_
 refine SL.r 9 (pv b) ?_
 refine SL.r 10 (pv b) ?_
 refine SL.r 11 (.pointer (some ⟨b, 2, none⟩)) ?_
 refine SL.r 12 (pv b) ?_
 refine SL.r 13 (pv b) ?_
 refine SL.r 14 (.pointer (some ⟨b, 3, none⟩)) ?_
 refine SL.r 15 (pv b) ?_
 refine SL.r 16 (pv b) ?_
 refine SL.r 17 (.pointer (some ⟨b, 4, none⟩)) ?_
 refine SL.r 18 (.agg #[pv b, .pointer (some ⟨b, 1, none⟩), .pointer (some ⟨b, 2, none⟩), .pointer (some ⟨b, 3, none⟩), .pointer (some ⟨b, 4, none⟩)]) ?_
 refine SL.done ?_
 refine TL.stBox S2 0 204 0 (.agg #[pv b, .pointer (some ⟨b, 1, none⟩), .pointer (some ⟨b, 2, none⟩), .pointer (some ⟨b, 3, none⟩), .pointer (some ⟨b, 4, none⟩)]) [pv b, .pointer (some ⟨b, 1, none⟩), .pointer (some ⟨b, 2, none⟩), .pointer (some ⟨b, 3, none⟩), .pointer (some ⟨b, 4, none⟩)] [box b1 [pv b, .pointer (some ⟨b, 1, none⟩), .pointer (some ⟨b, 2, none⟩), .pointer (some ⟨b, 3, none⟩), .pointer (some ⟨b, 4, none⟩)] 204] (by kernel_rfl) rfl (by kernel_rfl) (by kernel_rfl) rfl ?_
 intro w3 S3
 refine TL.done (by kernel_rfl) ?_
 refine J.ret Tryz.f185 [.agg #[pv b, .pointer (some ⟨b, 1, none⟩), .pointer (some ⟨b, 2, none⟩), .pointer (some ⟨b, 3, none⟩), .pointer (some ⟨b, 4, none⟩)]] Tryz.func185 ⟨⟨⟨b1, 0, none⟩, by kernel_rfl, ldV_run (S3.nth 0 rfl) (by kernel_rfl)⟩, trivial⟩ ?_
 refine hR _ _ ?_
 exact ⟨rfl, S3.nil⟩

theorem hb144 : HasBody Tryz.prog 144 := fun _ _ => by kernel_rfl

theorem uvalid_any (u : Unt) (w : World) : Ret Tryz.prog 144 #[.agg (untA u)] w (fun v w' => v = .bool (unB u) ∧ Sep w [] w') := by
 refine Ret.st (N := 20) Tryz.func144 fun R hR S0 => ?_
 refine J.nw 2 [] [] [] S0 1 (untC u) 73 fun b1 w1 S1 => ?_
 refine J.r 5 [] [] [] ?_
 refine J.c0 0 [] [] [] S1 5 hb185 (expo_any b1 _) fun w2 S2 => ?_
 refine J.lb 22 [true] [(4, pv b1), (6, iv 0)] [] S2 0 rfl 11 (iv u.gM) ?_
 refine J.c 2 [] [] [] 13 (u.gM < (-9)) (fun fk1 => ?_) fun fk1 => ?_
 ·skip
  refine J.e 11 [.bool false] Tryz.func144 (hR _ _ ?_)
  exact ⟨congrArg Value.bool (decide_eq_false (show ¬ (unP u.gM u.gKg u.gS u.gA u.gK) by omega)).symm, S2.nil⟩
 refine J.lb 2 [] [] [] S2 0 rfl 16 (iv u.gM) ?_
 refine J.c 3 [] [] [] 18 (u.gM > 9) (fun fk2 => ?_) fun fk2 => ?_
 ·skip
  refine J.e 5 [.bool false] Tryz.func144 (hR _ _ ?_)
  exact ⟨congrArg Value.bool (decide_eq_false (show ¬ (unP u.gM u.gKg u.gS u.gA u.gK) by omega)).symm, S2.nil⟩
 refine J.lb 26 [false, true] [(4, .pointer (some ⟨b1, 1, none⟩)), (6, iv 1)] [] S2 0 rfl 11 (iv u.gKg) ?_
 refine J.c 2 [] [] [13] 13 (u.gKg < (-9)) (fun fk3 => ?_) fun fk3 => ?_
 ·skip
  refine J.e 11 [.bool false] Tryz.func144 (hR _ _ ?_)
  exact ⟨congrArg Value.bool (decide_eq_false (show ¬ (unP u.gM u.gKg u.gS u.gA u.gK) by omega)).symm, S2.nil⟩
 refine J.lb 2 [] [] [] S2 0 rfl 16 (iv u.gKg) ?_
 refine J.c 3 [] [] [18] 18 (u.gKg > 9) (fun fk4 => ?_) fun fk4 => ?_
 ·skip
  refine J.e 5 [.bool false] Tryz.func144 (hR _ _ ?_)
  exact ⟨congrArg Value.bool (decide_eq_false (show ¬ (unP u.gM u.gKg u.gS u.gA u.gK) by omega)).symm, S2.nil⟩
 refine J.lb 26 [false, true] [(4, .pointer (some ⟨b1, 2, none⟩)), (6, iv 2)] [] S2 0 rfl 11 (iv u.gS) ?_
 refine J.c 2 [] [] [13] 13 (u.gS < (-9)) (fun fk5 => ?_) fun fk5 => ?_
 ·skip
  refine J.e 11 [.bool false] Tryz.func144 (hR _ _ ?_)
  exact ⟨congrArg Value.bool (decide_eq_false (show ¬ (unP u.gM u.gKg u.gS u.gA u.gK) by omega)).symm, S2.nil⟩
 refine J.lb 2 [] [] [] S2 0 rfl 16 (iv u.gS) ?_
 refine J.c 3 [] [] [18] 18 (u.gS > 9) (fun fk6 => ?_) fun fk6 => ?_
 ·skip
  refine J.e 5 [.bool false] Tryz.func144 (hR _ _ ?_)
  exact ⟨congrArg Value.bool (decide_eq_false (show ¬ (unP u.gM u.gKg u.gS u.gA u.gK) by omega)).symm, S2.nil⟩
 refine J.lb 26 [false, true] [(4, .pointer (some ⟨b1, 3, none⟩)), (6, iv 3)] [] S2 0 rfl 11 (iv u.gA) ?_
 refine J.c 2 [] [] [13] 13 (u.gA < (-9)) (fun fk7 => ?_) fun fk7 => ?_
 ·skip
  refine J.e 11 [.bool false] Tryz.func144 (hR _ _ ?_)
  exact ⟨congrArg Value.bool (decide_eq_false (show ¬ (unP u.gM u.gKg u.gS u.gA u.gK) by omega)).symm, S2.nil⟩
 refine J.lb 2 [] [] [] S2 0 rfl 16 (iv u.gA) ?_
 refine J.c 3 [] [] [18] 18 (u.gA > 9) (fun fk8 => ?_) fun fk8 => ?_
 ·skip
  refine J.e 5 [.bool false] Tryz.func144 (hR _ _ ?_)
  exact ⟨congrArg Value.bool (decide_eq_false (show ¬ (unP u.gM u.gKg u.gS u.gA u.gK) by omega)).symm, S2.nil⟩
 refine J.lb 26 [false, true] [(4, .pointer (some ⟨b1, 4, none⟩)), (6, iv 4)] [] S2 0 rfl 11 (iv u.gK) ?_
 refine J.c 2 [] [] [13] 13 (u.gK < (-9)) (fun fk9 => ?_) fun fk9 => ?_
 ·skip
  refine J.e 11 [.bool false] Tryz.func144 (hR _ _ ?_)
  exact ⟨congrArg Value.bool (decide_eq_false (show ¬ (unP u.gM u.gKg u.gS u.gA u.gK) by omega)).symm, S2.nil⟩
 refine J.lb 2 [] [] [] S2 0 rfl 16 (iv u.gK) ?_
 refine J.c 3 [] [] [18] 18 (u.gK > 9) (fun fk10 => ?_) fun fk10 => ?_
 ·skip
  refine J.e 5 [.bool false] Tryz.func144 (hR _ _ ?_)
  exact ⟨congrArg Value.bool (decide_eq_false (show ¬ (unP u.gM u.gKg u.gS u.gA u.gK) by omega)).symm, S2.nil⟩
 refine J.e 19 [.bool true] Tryz.func144 (hR _ _ ?_)
 exact ⟨congrArg Value.bool (decide_eq_true (show unP u.gM u.gKg u.gS u.gA u.gK by omega)).symm, S2.nil⟩

theorem hb215 : HasBody Tryz.prog 215 := fun _ _ => by kernel_rfl

theorem ucomb_any (a b : Unt) (w : World) : Ret Tryz.prog 215 #[.agg (untA a), .agg (untA b), iv 1] w (fun v w' => v = .tuple #[.agg #[iv (unX a b 1).gM, iv (unX a b 1).gKg, iv (unX a b 1).gS, iv (unX a b 1).gA, iv (unX a b 1).gK], iv (unE a b 1)] ∧ Sep w [] w') := by
 refine Ret.st (N := 45) Tryz.func215 fun R hR S0 => ?_
 refine J.nw 2 [] [] [] S0 3 (untC a) 73 fun b1 w1 S1 => ?_
 refine J.nw 0 [] [] [] S1 4 (untC b) 73 fun b2 w2 S2 => ?_
 refine J.nw 0 [] [] [] S2 6 kvV14_1 73 fun b3 w3 S3 => ?_
 refine J.lb 5 [] [] [] S3 2 rfl 11 (.agg (untA a)) ?_
 refine J.c0 0 [] [] [] S3 12 hb144 (uvalid_any a _) fun w4 S4 => ?_
 refine J.bn 2 [] [] [] 14 (unB a) (fun fk1 => ?_) fun fk1 => ?_
 ·skip
  have fb1 := unB_iff.1 fk1
  try dsimp only at fb1
  refine J.lb 0 [] [] [] S4 1 rfl 15 (.agg (untA b)) ?_
  refine J.c0 0 [] [] [] S4 16 hb144 (uvalid_any b _) fun w5 S5 => ?_
  refine J.bn 3 [] [] [] 18 (unB b) (fun fk2 => ?_) fun fk2 => ?_
  ·skip
   have fb2 := unB_iff.1 fk2
   try dsimp only at fb2
   refine J.r 4 [false] [] [] ?_
   refine J.c0 0 [] [] [] S5 20 hb185 (expo_any b1 _) fun w6 S6 => ?_
   refine J.c0 0 [] [] [] S6 21 hb185 (expo_any b2 _) fun w7 S7 => ?_
   refine J.nw 0 [] [] [] S7 8 [.pointer none, .pointer none, .pointer none, .pointer none, .pointer none] 204 fun b4 w8 S8 => ?_
   refine J.nw 0 [] [] [] S8 9 [.pointer none, .pointer none, .pointer none, .pointer none, .pointer none] 204 fun b5 w9 S9 => ?_
   refine J.sb 0 [] [] [] S9 1 rfl [pv b1, .pointer (some ⟨b1, 1, none⟩), .pointer (some ⟨b1, 2, none⟩), .pointer (some ⟨b1, 3, none⟩), .pointer (some ⟨b1, 4, none⟩)] rfl fun w10 S10 => ?_
   refine J.sb 0 [] [] [] S10 0 rfl [pv b2, .pointer (some ⟨b2, 1, none⟩), .pointer (some ⟨b2, 2, none⟩), .pointer (some ⟨b2, 3, none⟩), .pointer (some ⟨b2, 4, none⟩)] rfl fun w11 S11 => ?_
   refine J.r 22 [true] [(10, iv 0), (22, iv 0)] [] ?_
   refine J.drawTail S11 14 Tryz.mixed (by kernel_rfl) (by kernel_rfl) ?_
   intro w12 S12
   refine SL.r 25 (iv 0) ?_
   refine SL.ok (by decide) (OK.indexP 26 204 5 1 b4 0 0 0 (by kernel_rfl) (by kernel_rfl) (by omega) (by omega)) ?_
   refine SL.head (pv b4) (by first | rfl | (rw [Nat.zero_add, Nat.mul_one])) ?_
   refine SL.lb S12 1 rfl 27 (pv b1) ?_
   refine SL.r 28 (pv b1) ?_
   refine SL.lb S12 4 rfl 29 (iv a.gM) ?_
   refine SL.r 30 (iv 1) ?_
   refine SL.r 31 (iv 0) ?_
   refine SL.ok (by decide) (OK.indexP 32 204 5 1 b5 0 0 0 (by kernel_rfl) (by kernel_rfl) (by omega) (by omega)) ?_
   refine SL.head (pv b5) (by first | rfl | (rw [Nat.zero_add, Nat.mul_one])) ?_
   refine SL.lb S12 0 rfl 33 (pv b2) ?_
   refine SL.r 34 (pv b2) ?_
   refine SL.lb S12 3 rfl 35 (iv b.gM) ?_
   refine SL.r 36 (iv (IntKind.wrap .i64 (1 * b.gM))) ?_
   refine SL.head (iv (1 * b.gM)) (congrArg (Value.int .i64) (IntWalk.i64_in _ (by omega))) ?_
   refine SL.r 37 (iv (IntKind.wrap .i64 (a.gM + (1 * b.gM)))) ?_
   refine SL.head (iv (a.gM + (1 * b.gM))) (congrArg (Value.int .i64) (IntWalk.i64_in _ (by omega))) ?_
   refine SL.r 38 (pv b1) ?_
   refine SL.done ?_
   refine TL.stBox S12 4 3 0 (iv (a.gM + (1 * b.gM))) [iv (a.gM + (1 * b.gM)), iv a.gKg, iv a.gS, iv a.gA, iv a.gK] [box b5 [pv b2, .pointer (some ⟨b2, 1, none⟩), .pointer (some ⟨b2, 2, none⟩), .pointer (some ⟨b2, 3, none⟩), .pointer (some ⟨b2, 4, none⟩)] 204, box b4 [pv b1, .pointer (some ⟨b1, 1, none⟩), .pointer (some ⟨b1, 2, none⟩), .pointer (some ⟨b1, 3, none⟩), .pointer (some ⟨b1, 4, none⟩)] 204, box b3 kvV14_1 73, box b2 (untC b) 73, box b1 [iv (a.gM + (1 * b.gM)), iv a.gKg, iv a.gS, iv a.gA, iv a.gK] 73] (by kernel_rfl) rfl (by kernel_rfl) (by kernel_rfl) rfl ?_
   intro w13 S13
   refine TL.done (by kernel_rfl) ?_
   refine J.r 20 [true] [(10, iv 1), (22, iv 1)] [] ?_
   refine J.drawTail S13 14 Tryz.mixed (by kernel_rfl) (by kernel_rfl) ?_
   intro w14 S14
   refine SL.r 25 (iv 1) ?_
   refine SL.ok (by decide) (OK.indexP 26 204 5 1 b4 0 1 1 (by kernel_rfl) (by kernel_rfl) (by omega) (by omega)) ?_
   refine SL.head (.pointer (some ⟨b4, 1, none⟩)) (by first | rfl | (rw [Nat.zero_add, Nat.mul_one])) ?_
   refine SL.lb S14 1 rfl 27 (.pointer (some ⟨b1, 1, none⟩)) ?_
   refine SL.r 28 (.pointer (some ⟨b1, 1, none⟩)) ?_
   refine SL.lb S14 4 rfl 29 (iv a.gKg) ?_
   refine SL.r 30 (iv 1) ?_
   refine SL.r 31 (iv 1) ?_
   refine SL.ok (by decide) (OK.indexP 32 204 5 1 b5 0 1 1 (by kernel_rfl) (by kernel_rfl) (by omega) (by omega)) ?_
   refine SL.head (.pointer (some ⟨b5, 1, none⟩)) (by first | rfl | (rw [Nat.zero_add, Nat.mul_one])) ?_
   refine SL.lb S14 0 rfl 33 (.pointer (some ⟨b2, 1, none⟩)) ?_
   refine SL.r 34 (.pointer (some ⟨b2, 1, none⟩)) ?_
   refine SL.lb S14 3 rfl 35 (iv b.gKg) ?_
   refine SL.r 36 (iv (IntKind.wrap .i64 (1 * b.gKg))) ?_
   refine SL.head (iv (1 * b.gKg)) (congrArg (Value.int .i64) (IntWalk.i64_in _ (by omega))) ?_
   refine SL.r 37 (iv (IntKind.wrap .i64 (a.gKg + (1 * b.gKg)))) ?_
   refine SL.head (iv (a.gKg + (1 * b.gKg))) (congrArg (Value.int .i64) (IntWalk.i64_in _ (by omega))) ?_
   refine SL.r 38 (.pointer (some ⟨b1, 1, none⟩)) ?_
   refine SL.done ?_
   refine TL.stBox S14 4 3 1 (iv (a.gKg + (1 * b.gKg))) [iv (a.gM + (1 * b.gM)), iv (a.gKg + (1 * b.gKg)), iv a.gS, iv a.gA, iv a.gK] [box b5 [pv b2, .pointer (some ⟨b2, 1, none⟩), .pointer (some ⟨b2, 2, none⟩), .pointer (some ⟨b2, 3, none⟩), .pointer (some ⟨b2, 4, none⟩)] 204, box b4 [pv b1, .pointer (some ⟨b1, 1, none⟩), .pointer (some ⟨b1, 2, none⟩), .pointer (some ⟨b1, 3, none⟩), .pointer (some ⟨b1, 4, none⟩)] 204, box b3 kvV14_1 73, box b2 (untC b) 73, box b1 [iv (a.gM + (1 * b.gM)), iv (a.gKg + (1 * b.gKg)), iv a.gS, iv a.gA, iv a.gK] 73] (by kernel_rfl) rfl (by kernel_rfl) (by kernel_rfl) rfl ?_
   intro w15 S15
   refine TL.done (by kernel_rfl) ?_
   refine J.r 20 [true] [(10, iv 2), (22, iv 2)] [] ?_
   refine J.drawTail S15 14 Tryz.mixed (by kernel_rfl) (by kernel_rfl) ?_
   intro w16 S16
   refine SL.r 25 (iv 2) ?_
   refine SL.ok (by decide) (OK.indexP 26 204 5 1 b4 0 2 2 (by kernel_rfl) (by kernel_rfl) (by omega) (by omega)) ?_
   refine SL.head (.pointer (some ⟨b4, 2, none⟩)) (by first | rfl | (rw [Nat.zero_add, Nat.mul_one])) ?_
   refine SL.lb S16 1 rfl 27 (.pointer (some ⟨b1, 2, none⟩)) ?_
   refine SL.r 28 (.pointer (some ⟨b1, 2, none⟩)) ?_
   refine SL.lb S16 4 rfl 29 (iv a.gS) ?_
   refine SL.r 30 (iv 1) ?_
   refine SL.r 31 (iv 2) ?_
   refine SL.ok (by decide) (OK.indexP 32 204 5 1 b5 0 2 2 (by kernel_rfl) (by kernel_rfl) (by omega) (by omega)) ?_
   refine SL.head (.pointer (some ⟨b5, 2, none⟩)) (by first | rfl | (rw [Nat.zero_add, Nat.mul_one])) ?_
   refine SL.lb S16 0 rfl 33 (.pointer (some ⟨b2, 2, none⟩)) ?_
   refine SL.r 34 (.pointer (some ⟨b2, 2, none⟩)) ?_
   refine SL.lb S16 3 rfl 35 (iv b.gS) ?_
   refine SL.r 36 (iv (IntKind.wrap .i64 (1 * b.gS))) ?_
   refine SL.head (iv (1 * b.gS)) (congrArg (Value.int .i64) (IntWalk.i64_in _ (by omega))) ?_
   refine SL.r 37 (iv (IntKind.wrap .i64 (a.gS + (1 * b.gS)))) ?_
   refine SL.head (iv (a.gS + (1 * b.gS))) (congrArg (Value.int .i64) (IntWalk.i64_in _ (by omega))) ?_
   refine SL.r 38 (.pointer (some ⟨b1, 2, none⟩)) ?_
   refine SL.done ?_
   refine TL.stBox S16 4 3 2 (iv (a.gS + (1 * b.gS))) [iv (a.gM + (1 * b.gM)), iv (a.gKg + (1 * b.gKg)), iv (a.gS + (1 * b.gS)), iv a.gA, iv a.gK] [box b5 [pv b2, .pointer (some ⟨b2, 1, none⟩), .pointer (some ⟨b2, 2, none⟩), .pointer (some ⟨b2, 3, none⟩), .pointer (some ⟨b2, 4, none⟩)] 204, box b4 [pv b1, .pointer (some ⟨b1, 1, none⟩), .pointer (some ⟨b1, 2, none⟩), .pointer (some ⟨b1, 3, none⟩), .pointer (some ⟨b1, 4, none⟩)] 204, box b3 kvV14_1 73, box b2 (untC b) 73, box b1 [iv (a.gM + (1 * b.gM)), iv (a.gKg + (1 * b.gKg)), iv (a.gS + (1 * b.gS)), iv a.gA, iv a.gK] 73] (by kernel_rfl) rfl (by kernel_rfl) (by kernel_rfl) rfl ?_
   intro w17 S17
   refine TL.done (by kernel_rfl) ?_
   refine J.r 20 [true] [(10, iv 3), (22, iv 3)] [] ?_
   refine J.drawTail S17 14 Tryz.mixed (by kernel_rfl) (by kernel_rfl) ?_
   intro w18 S18
   refine SL.r 25 (iv 3) ?_
   refine SL.ok (by decide) (OK.indexP 26 204 5 1 b4 0 3 3 (by kernel_rfl) (by kernel_rfl) (by omega) (by omega)) ?_
   refine SL.head (.pointer (some ⟨b4, 3, none⟩)) (by first | rfl | (rw [Nat.zero_add, Nat.mul_one])) ?_
   refine SL.lb S18 1 rfl 27 (.pointer (some ⟨b1, 3, none⟩)) ?_
   refine SL.r 28 (.pointer (some ⟨b1, 3, none⟩)) ?_
   refine SL.lb S18 4 rfl 29 (iv a.gA) ?_
   refine SL.r 30 (iv 1) ?_
   refine SL.r 31 (iv 3) ?_
   refine SL.ok (by decide) (OK.indexP 32 204 5 1 b5 0 3 3 (by kernel_rfl) (by kernel_rfl) (by omega) (by omega)) ?_
   refine SL.head (.pointer (some ⟨b5, 3, none⟩)) (by first | rfl | (rw [Nat.zero_add, Nat.mul_one])) ?_
   refine SL.lb S18 0 rfl 33 (.pointer (some ⟨b2, 3, none⟩)) ?_
   refine SL.r 34 (.pointer (some ⟨b2, 3, none⟩)) ?_
   refine SL.lb S18 3 rfl 35 (iv b.gA) ?_
   refine SL.r 36 (iv (IntKind.wrap .i64 (1 * b.gA))) ?_
   refine SL.head (iv (1 * b.gA)) (congrArg (Value.int .i64) (IntWalk.i64_in _ (by omega))) ?_
   refine SL.r 37 (iv (IntKind.wrap .i64 (a.gA + (1 * b.gA)))) ?_
   refine SL.head (iv (a.gA + (1 * b.gA))) (congrArg (Value.int .i64) (IntWalk.i64_in _ (by omega))) ?_
   refine SL.r 38 (.pointer (some ⟨b1, 3, none⟩)) ?_
   refine SL.done ?_
   refine TL.stBox S18 4 3 3 (iv (a.gA + (1 * b.gA))) [iv (a.gM + (1 * b.gM)), iv (a.gKg + (1 * b.gKg)), iv (a.gS + (1 * b.gS)), iv (a.gA + (1 * b.gA)), iv a.gK] [box b5 [pv b2, .pointer (some ⟨b2, 1, none⟩), .pointer (some ⟨b2, 2, none⟩), .pointer (some ⟨b2, 3, none⟩), .pointer (some ⟨b2, 4, none⟩)] 204, box b4 [pv b1, .pointer (some ⟨b1, 1, none⟩), .pointer (some ⟨b1, 2, none⟩), .pointer (some ⟨b1, 3, none⟩), .pointer (some ⟨b1, 4, none⟩)] 204, box b3 kvV14_1 73, box b2 (untC b) 73, box b1 [iv (a.gM + (1 * b.gM)), iv (a.gKg + (1 * b.gKg)), iv (a.gS + (1 * b.gS)), iv (a.gA + (1 * b.gA)), iv a.gK] 73] (by kernel_rfl) rfl (by kernel_rfl) (by kernel_rfl) rfl ?_
   intro w19 S19
   refine TL.done (by kernel_rfl) ?_
   refine J.r 20 [true] [(10, iv 4), (22, iv 4)] [] ?_
   refine J.drawTail S19 14 Tryz.mixed (by kernel_rfl) (by kernel_rfl) ?_
   intro w20 S20
   refine SL.r 25 (iv 4) ?_
   refine SL.ok (by decide) (OK.indexP 26 204 5 1 b4 0 4 4 (by kernel_rfl) (by kernel_rfl) (by omega) (by omega)) ?_
   refine SL.head (.pointer (some ⟨b4, 4, none⟩)) (by first | rfl | (rw [Nat.zero_add, Nat.mul_one])) ?_
   refine SL.lb S20 1 rfl 27 (.pointer (some ⟨b1, 4, none⟩)) ?_
   refine SL.r 28 (.pointer (some ⟨b1, 4, none⟩)) ?_
   refine SL.lb S20 4 rfl 29 (iv a.gK) ?_
   refine SL.r 30 (iv 1) ?_
   refine SL.r 31 (iv 4) ?_
   refine SL.ok (by decide) (OK.indexP 32 204 5 1 b5 0 4 4 (by kernel_rfl) (by kernel_rfl) (by omega) (by omega)) ?_
   refine SL.head (.pointer (some ⟨b5, 4, none⟩)) (by first | rfl | (rw [Nat.zero_add, Nat.mul_one])) ?_
   refine SL.lb S20 0 rfl 33 (.pointer (some ⟨b2, 4, none⟩)) ?_
   refine SL.r 34 (.pointer (some ⟨b2, 4, none⟩)) ?_
   refine SL.lb S20 3 rfl 35 (iv b.gK) ?_
   refine SL.r 36 (iv (IntKind.wrap .i64 (1 * b.gK))) ?_
   refine SL.head (iv (1 * b.gK)) (congrArg (Value.int .i64) (IntWalk.i64_in _ (by omega))) ?_
   refine SL.r 37 (iv (IntKind.wrap .i64 (a.gK + (1 * b.gK)))) ?_
   refine SL.head (iv (a.gK + (1 * b.gK))) (congrArg (Value.int .i64) (IntWalk.i64_in _ (by omega))) ?_
   refine SL.r 38 (.pointer (some ⟨b1, 4, none⟩)) ?_
   refine SL.done ?_
   refine TL.stBox S20 4 3 4 (iv (a.gK + (1 * b.gK))) [iv (a.gM + (1 * b.gM)), iv (a.gKg + (1 * b.gKg)), iv (a.gS + (1 * b.gS)), iv (a.gA + (1 * b.gA)), iv (a.gK + (1 * b.gK))] [box b5 [pv b2, .pointer (some ⟨b2, 1, none⟩), .pointer (some ⟨b2, 2, none⟩), .pointer (some ⟨b2, 3, none⟩), .pointer (some ⟨b2, 4, none⟩)] 204, box b4 [pv b1, .pointer (some ⟨b1, 1, none⟩), .pointer (some ⟨b1, 2, none⟩), .pointer (some ⟨b1, 3, none⟩), .pointer (some ⟨b1, 4, none⟩)] 204, box b3 kvV14_1 73, box b2 (untC b) 73, box b1 [iv (a.gM + (1 * b.gM)), iv (a.gKg + (1 * b.gKg)), iv (a.gS + (1 * b.gS)), iv (a.gA + (1 * b.gA)), iv (a.gK + (1 * b.gK))] 73] (by kernel_rfl) rfl (by kernel_rfl) (by kernel_rfl) rfl ?_
   intro w21 S21
   refine TL.done (by kernel_rfl) ?_
   refine J.lb 16 [false] [] [22] S21 4 rfl 40 (.agg #[iv (a.gM + (1 * b.gM)), iv (a.gKg + (1 * b.gKg)), iv (a.gS + (1 * b.gS)), iv (a.gA + (1 * b.gA)), iv (a.gK + (1 * b.gK))]) ?_
   refine J.c0 0 [] [] [] S21 41 hb144 (uvalid_any (⟨a.gM + (1 * b.gM), a.gKg + (1 * b.gKg), a.gS + (1 * b.gS), a.gA + (1 * b.gA), a.gK + (1 * b.gK)⟩ : Unt) _) fun w22 S22 => ?_
   refine J.bn 2 [] [] [] 42 (unB (⟨a.gM + (1 * b.gM), a.gKg + (1 * b.gKg), a.gS + (1 * b.gS), a.gA + (1 * b.gA), a.gK + (1 * b.gK)⟩ : Unt)) (fun fk3 => ?_) fun fk3 => ?_
   ·skip
    have fb3 := unB_iff.1 fk3
    try dsimp only at fb3
    refine J.lb 4 [false] [] [] S22 4 rfl 44 (.agg #[iv (a.gM + (1 * b.gM)), iv (a.gKg + (1 * b.gKg)), iv (a.gS + (1 * b.gS)), iv (a.gA + (1 * b.gA)), iv (a.gK + (1 * b.gK))]) ?_
    refine J.sb 0 [] [] [] S22 2 rfl [iv (a.gM + (1 * b.gM)), iv (a.gKg + (1 * b.gKg)), iv (a.gS + (1 * b.gS)), iv (a.gA + (1 * b.gA)), iv (a.gK + (1 * b.gK))] rfl fun w23 S23 => ?_
    refine J.r 2 [] [(7, iv 0)] [] ?_
    refine J.ret Tryz.f215 [.agg #[iv (a.gM + (1 * b.gM)), iv (a.gKg + (1 * b.gKg)), iv (a.gS + (1 * b.gS)), iv (a.gA + (1 * b.gA)), iv (a.gK + (1 * b.gK))], iv 0] Tryz.func215 ⟨⟨⟨b3, 0, none⟩, by kernel_rfl, ldV_run (S23.nth 2 rfl) (by kernel_rfl)⟩, by kernel_rfl, trivial⟩ ?_
    refine hR _ _ ?_
    obtain ⟨e1, e2⟩ := un_in (a := a) (b := b) (s := 1) fk1 fk2 fk3
    exact ⟨by rw [e1, e2]; rfl, S23.nil⟩
   have fb4 := mt unB_iff.2 (by rw [fk3]; decide)
   try dsimp only at fb4
   refine J.sb 4 [true] [] [] S22 2 rfl kvV14_1 rfl fun w24 S24 => ?_
   refine J.r 2 [] [(7, iv 2)] [] ?_
   refine J.ret Tryz.f215 [.agg kvV14_2, iv 2] Tryz.func215 ⟨⟨⟨b3, 0, none⟩, by kernel_rfl, ldV_run (S24.nth 2 rfl) (by kernel_rfl)⟩, by kernel_rfl, trivial⟩ ?_
   refine hR _ _ ?_
   obtain ⟨e1, e2⟩ := un_out (a := a) (b := b) (s := 1) fk1 fk2 fk3
   exact ⟨by rw [e1, e2]; rfl, S24.nil⟩
  have fb5 := mt unB_iff.2 (by rw [fk2]; decide)
  try dsimp only at fb5
  refine J.sb 4 [true] [] [] S5 0 rfl kvV14_1 rfl fun w25 S25 => ?_
  refine J.r 2 [] [(7, iv 1)] [] ?_
  refine J.ret Tryz.f215 [.agg kvV14_2, iv 1] Tryz.func215 ⟨⟨⟨b3, 0, none⟩, by kernel_rfl, ldV_run (S25.nth 0 rfl) (by kernel_rfl)⟩, by kernel_rfl, trivial⟩ ?_
  refine hR _ _ ?_
  obtain ⟨e1, e2⟩ := un_bad (a := a) (b := b) (s := 1) (by first | exact .inl fk2 | exact .inr fk2)
  exact ⟨by rw [e1, e2]; rfl, S25.nil⟩
 have fb6 := mt unB_iff.2 (by rw [fk1]; decide)
 try dsimp only at fb6
 refine J.sb 9 [true] [] [] S4 0 rfl kvV14_1 rfl fun w26 S26 => ?_
 refine J.r 2 [] [(7, iv 1)] [] ?_
 refine J.ret Tryz.f215 [.agg kvV14_2, iv 1] Tryz.func215 ⟨⟨⟨b3, 0, none⟩, by kernel_rfl, ldV_run (S26.nth 0 rfl) (by kernel_rfl)⟩, by kernel_rfl, trivial⟩ ?_
 refine hR _ _ ?_
 obtain ⟨e1, e2⟩ := un_bad (a := a) (b := b) (s := 1) (by first | exact .inl fk1 | exact .inr fk1)
 exact ⟨by rw [e1, e2]; rfl, S26.nil⟩

theorem ucombm_any (a b : Unt) (w : World) : Ret Tryz.prog 215 #[.agg (untA a), .agg (untA b), iv (-1)] w (fun v w' => v = .tuple #[.agg #[iv (unX a b (-1)).gM, iv (unX a b (-1)).gKg, iv (unX a b (-1)).gS, iv (unX a b (-1)).gA, iv (unX a b (-1)).gK], iv (unE a b (-1))] ∧ Sep w [] w') := by
 refine Ret.st (N := 45) Tryz.func215 fun R hR S0 => ?_
 refine J.nw 2 [] [] [] S0 3 (untC a) 73 fun b1 w1 S1 => ?_
 refine J.nw 0 [] [] [] S1 4 (untC b) 73 fun b2 w2 S2 => ?_
 refine J.nw 0 [] [] [] S2 6 kvV14_1 73 fun b3 w3 S3 => ?_
 refine J.lb 5 [] [] [] S3 2 rfl 11 (.agg (untA a)) ?_
 refine J.c0 0 [] [] [] S3 12 hb144 (uvalid_any a _) fun w4 S4 => ?_
 refine J.bn 2 [] [] [] 14 (unB a) (fun fk1 => ?_) fun fk1 => ?_
 ·skip
  have fb1 := unB_iff.1 fk1
  try dsimp only at fb1
  refine J.lb 0 [] [] [] S4 1 rfl 15 (.agg (untA b)) ?_
  refine J.c0 0 [] [] [] S4 16 hb144 (uvalid_any b _) fun w5 S5 => ?_
  refine J.bn 3 [] [] [] 18 (unB b) (fun fk2 => ?_) fun fk2 => ?_
  ·skip
   have fb2 := unB_iff.1 fk2
   try dsimp only at fb2
   refine J.r 4 [false] [] [] ?_
   refine J.c0 0 [] [] [] S5 20 hb185 (expo_any b1 _) fun w6 S6 => ?_
   refine J.c0 0 [] [] [] S6 21 hb185 (expo_any b2 _) fun w7 S7 => ?_
   refine J.nw 0 [] [] [] S7 8 [.pointer none, .pointer none, .pointer none, .pointer none, .pointer none] 204 fun b4 w8 S8 => ?_
   refine J.nw 0 [] [] [] S8 9 [.pointer none, .pointer none, .pointer none, .pointer none, .pointer none] 204 fun b5 w9 S9 => ?_
   refine J.sb 0 [] [] [] S9 1 rfl [pv b1, .pointer (some ⟨b1, 1, none⟩), .pointer (some ⟨b1, 2, none⟩), .pointer (some ⟨b1, 3, none⟩), .pointer (some ⟨b1, 4, none⟩)] rfl fun w10 S10 => ?_
   refine J.sb 0 [] [] [] S10 0 rfl [pv b2, .pointer (some ⟨b2, 1, none⟩), .pointer (some ⟨b2, 2, none⟩), .pointer (some ⟨b2, 3, none⟩), .pointer (some ⟨b2, 4, none⟩)] rfl fun w11 S11 => ?_
   refine J.r 22 [true] [(10, iv 0), (22, iv 0)] [] ?_
   refine J.drawTail S11 14 Tryz.mixed (by kernel_rfl) (by kernel_rfl) ?_
   intro w12 S12
   refine SL.r 25 (iv 0) ?_
   refine SL.ok (by decide) (OK.indexP 26 204 5 1 b4 0 0 0 (by kernel_rfl) (by kernel_rfl) (by omega) (by omega)) ?_
   refine SL.head (pv b4) (by first | rfl | (rw [Nat.zero_add, Nat.mul_one])) ?_
   refine SL.lb S12 1 rfl 27 (pv b1) ?_
   refine SL.r 28 (pv b1) ?_
   refine SL.lb S12 4 rfl 29 (iv a.gM) ?_
   refine SL.r 30 (iv (-1)) ?_
   refine SL.r 31 (iv 0) ?_
   refine SL.ok (by decide) (OK.indexP 32 204 5 1 b5 0 0 0 (by kernel_rfl) (by kernel_rfl) (by omega) (by omega)) ?_
   refine SL.head (pv b5) (by first | rfl | (rw [Nat.zero_add, Nat.mul_one])) ?_
   refine SL.lb S12 0 rfl 33 (pv b2) ?_
   refine SL.r 34 (pv b2) ?_
   refine SL.lb S12 3 rfl 35 (iv b.gM) ?_
   refine SL.r 36 (iv (IntKind.wrap .i64 ((-1) * b.gM))) ?_
   refine SL.head (iv ((-1) * b.gM)) (congrArg (Value.int .i64) (IntWalk.i64_in _ (by omega))) ?_
   refine SL.r 37 (iv (IntKind.wrap .i64 (a.gM + ((-1) * b.gM)))) ?_
   refine SL.head (iv (a.gM + ((-1) * b.gM))) (congrArg (Value.int .i64) (IntWalk.i64_in _ (by omega))) ?_
   refine SL.r 38 (pv b1) ?_
   refine SL.done ?_
   refine TL.stBox S12 4 3 0 (iv (a.gM + ((-1) * b.gM))) [iv (a.gM + ((-1) * b.gM)), iv a.gKg, iv a.gS, iv a.gA, iv a.gK] [box b5 [pv b2, .pointer (some ⟨b2, 1, none⟩), .pointer (some ⟨b2, 2, none⟩), .pointer (some ⟨b2, 3, none⟩), .pointer (some ⟨b2, 4, none⟩)] 204, box b4 [pv b1, .pointer (some ⟨b1, 1, none⟩), .pointer (some ⟨b1, 2, none⟩), .pointer (some ⟨b1, 3, none⟩), .pointer (some ⟨b1, 4, none⟩)] 204, box b3 kvV14_1 73, box b2 (untC b) 73, box b1 [iv (a.gM + ((-1) * b.gM)), iv a.gKg, iv a.gS, iv a.gA, iv a.gK] 73] (by kernel_rfl) rfl (by kernel_rfl) (by kernel_rfl) rfl ?_
   intro w13 S13
   refine TL.done (by kernel_rfl) ?_
   refine J.r 20 [true] [(10, iv 1), (22, iv 1)] [] ?_
   refine J.drawTail S13 14 Tryz.mixed (by kernel_rfl) (by kernel_rfl) ?_
   intro w14 S14
   refine SL.r 25 (iv 1) ?_
   refine SL.ok (by decide) (OK.indexP 26 204 5 1 b4 0 1 1 (by kernel_rfl) (by kernel_rfl) (by omega) (by omega)) ?_
   refine SL.head (.pointer (some ⟨b4, 1, none⟩)) (by first | rfl | (rw [Nat.zero_add, Nat.mul_one])) ?_
   refine SL.lb S14 1 rfl 27 (.pointer (some ⟨b1, 1, none⟩)) ?_
   refine SL.r 28 (.pointer (some ⟨b1, 1, none⟩)) ?_
   refine SL.lb S14 4 rfl 29 (iv a.gKg) ?_
   refine SL.r 30 (iv (-1)) ?_
   refine SL.r 31 (iv 1) ?_
   refine SL.ok (by decide) (OK.indexP 32 204 5 1 b5 0 1 1 (by kernel_rfl) (by kernel_rfl) (by omega) (by omega)) ?_
   refine SL.head (.pointer (some ⟨b5, 1, none⟩)) (by first | rfl | (rw [Nat.zero_add, Nat.mul_one])) ?_
   refine SL.lb S14 0 rfl 33 (.pointer (some ⟨b2, 1, none⟩)) ?_
   refine SL.r 34 (.pointer (some ⟨b2, 1, none⟩)) ?_
   refine SL.lb S14 3 rfl 35 (iv b.gKg) ?_
   refine SL.r 36 (iv (IntKind.wrap .i64 ((-1) * b.gKg))) ?_
   refine SL.head (iv ((-1) * b.gKg)) (congrArg (Value.int .i64) (IntWalk.i64_in _ (by omega))) ?_
   refine SL.r 37 (iv (IntKind.wrap .i64 (a.gKg + ((-1) * b.gKg)))) ?_
   refine SL.head (iv (a.gKg + ((-1) * b.gKg))) (congrArg (Value.int .i64) (IntWalk.i64_in _ (by omega))) ?_
   refine SL.r 38 (.pointer (some ⟨b1, 1, none⟩)) ?_
   refine SL.done ?_
   refine TL.stBox S14 4 3 1 (iv (a.gKg + ((-1) * b.gKg))) [iv (a.gM + ((-1) * b.gM)), iv (a.gKg + ((-1) * b.gKg)), iv a.gS, iv a.gA, iv a.gK] [box b5 [pv b2, .pointer (some ⟨b2, 1, none⟩), .pointer (some ⟨b2, 2, none⟩), .pointer (some ⟨b2, 3, none⟩), .pointer (some ⟨b2, 4, none⟩)] 204, box b4 [pv b1, .pointer (some ⟨b1, 1, none⟩), .pointer (some ⟨b1, 2, none⟩), .pointer (some ⟨b1, 3, none⟩), .pointer (some ⟨b1, 4, none⟩)] 204, box b3 kvV14_1 73, box b2 (untC b) 73, box b1 [iv (a.gM + ((-1) * b.gM)), iv (a.gKg + ((-1) * b.gKg)), iv a.gS, iv a.gA, iv a.gK] 73] (by kernel_rfl) rfl (by kernel_rfl) (by kernel_rfl) rfl ?_
   intro w15 S15
   refine TL.done (by kernel_rfl) ?_
   refine J.r 20 [true] [(10, iv 2), (22, iv 2)] [] ?_
   refine J.drawTail S15 14 Tryz.mixed (by kernel_rfl) (by kernel_rfl) ?_
   intro w16 S16
   refine SL.r 25 (iv 2) ?_
   refine SL.ok (by decide) (OK.indexP 26 204 5 1 b4 0 2 2 (by kernel_rfl) (by kernel_rfl) (by omega) (by omega)) ?_
   refine SL.head (.pointer (some ⟨b4, 2, none⟩)) (by first | rfl | (rw [Nat.zero_add, Nat.mul_one])) ?_
   refine SL.lb S16 1 rfl 27 (.pointer (some ⟨b1, 2, none⟩)) ?_
   refine SL.r 28 (.pointer (some ⟨b1, 2, none⟩)) ?_
   refine SL.lb S16 4 rfl 29 (iv a.gS) ?_
   refine SL.r 30 (iv (-1)) ?_
   refine SL.r 31 (iv 2) ?_
   refine SL.ok (by decide) (OK.indexP 32 204 5 1 b5 0 2 2 (by kernel_rfl) (by kernel_rfl) (by omega) (by omega)) ?_
   refine SL.head (.pointer (some ⟨b5, 2, none⟩)) (by first | rfl | (rw [Nat.zero_add, Nat.mul_one])) ?_
   refine SL.lb S16 0 rfl 33 (.pointer (some ⟨b2, 2, none⟩)) ?_
   refine SL.r 34 (.pointer (some ⟨b2, 2, none⟩)) ?_
   refine SL.lb S16 3 rfl 35 (iv b.gS) ?_
   refine SL.r 36 (iv (IntKind.wrap .i64 ((-1) * b.gS))) ?_
   refine SL.head (iv ((-1) * b.gS)) (congrArg (Value.int .i64) (IntWalk.i64_in _ (by omega))) ?_
   refine SL.r 37 (iv (IntKind.wrap .i64 (a.gS + ((-1) * b.gS)))) ?_
   refine SL.head (iv (a.gS + ((-1) * b.gS))) (congrArg (Value.int .i64) (IntWalk.i64_in _ (by omega))) ?_
   refine SL.r 38 (.pointer (some ⟨b1, 2, none⟩)) ?_
   refine SL.done ?_
   refine TL.stBox S16 4 3 2 (iv (a.gS + ((-1) * b.gS))) [iv (a.gM + ((-1) * b.gM)), iv (a.gKg + ((-1) * b.gKg)), iv (a.gS + ((-1) * b.gS)), iv a.gA, iv a.gK] [box b5 [pv b2, .pointer (some ⟨b2, 1, none⟩), .pointer (some ⟨b2, 2, none⟩), .pointer (some ⟨b2, 3, none⟩), .pointer (some ⟨b2, 4, none⟩)] 204, box b4 [pv b1, .pointer (some ⟨b1, 1, none⟩), .pointer (some ⟨b1, 2, none⟩), .pointer (some ⟨b1, 3, none⟩), .pointer (some ⟨b1, 4, none⟩)] 204, box b3 kvV14_1 73, box b2 (untC b) 73, box b1 [iv (a.gM + ((-1) * b.gM)), iv (a.gKg + ((-1) * b.gKg)), iv (a.gS + ((-1) * b.gS)), iv a.gA, iv a.gK] 73] (by kernel_rfl) rfl (by kernel_rfl) (by kernel_rfl) rfl ?_
   intro w17 S17
   refine TL.done (by kernel_rfl) ?_
   refine J.r 20 [true] [(10, iv 3), (22, iv 3)] [] ?_
   refine J.drawTail S17 14 Tryz.mixed (by kernel_rfl) (by kernel_rfl) ?_
   intro w18 S18
   refine SL.r 25 (iv 3) ?_
   refine SL.ok (by decide) (OK.indexP 26 204 5 1 b4 0 3 3 (by kernel_rfl) (by kernel_rfl) (by omega) (by omega)) ?_
   refine SL.head (.pointer (some ⟨b4, 3, none⟩)) (by first | rfl | (rw [Nat.zero_add, Nat.mul_one])) ?_
   refine SL.lb S18 1 rfl 27 (.pointer (some ⟨b1, 3, none⟩)) ?_
   refine SL.r 28 (.pointer (some ⟨b1, 3, none⟩)) ?_
   refine SL.lb S18 4 rfl 29 (iv a.gA) ?_
   refine SL.r 30 (iv (-1)) ?_
   refine SL.r 31 (iv 3) ?_
   refine SL.ok (by decide) (OK.indexP 32 204 5 1 b5 0 3 3 (by kernel_rfl) (by kernel_rfl) (by omega) (by omega)) ?_
   refine SL.head (.pointer (some ⟨b5, 3, none⟩)) (by first | rfl | (rw [Nat.zero_add, Nat.mul_one])) ?_
   refine SL.lb S18 0 rfl 33 (.pointer (some ⟨b2, 3, none⟩)) ?_
   refine SL.r 34 (.pointer (some ⟨b2, 3, none⟩)) ?_
   refine SL.lb S18 3 rfl 35 (iv b.gA) ?_
   refine SL.r 36 (iv (IntKind.wrap .i64 ((-1) * b.gA))) ?_
   refine SL.head (iv ((-1) * b.gA)) (congrArg (Value.int .i64) (IntWalk.i64_in _ (by omega))) ?_
   refine SL.r 37 (iv (IntKind.wrap .i64 (a.gA + ((-1) * b.gA)))) ?_
   refine SL.head (iv (a.gA + ((-1) * b.gA))) (congrArg (Value.int .i64) (IntWalk.i64_in _ (by omega))) ?_
   refine SL.r 38 (.pointer (some ⟨b1, 3, none⟩)) ?_
   refine SL.done ?_
   refine TL.stBox S18 4 3 3 (iv (a.gA + ((-1) * b.gA))) [iv (a.gM + ((-1) * b.gM)), iv (a.gKg + ((-1) * b.gKg)), iv (a.gS + ((-1) * b.gS)), iv (a.gA + ((-1) * b.gA)), iv a.gK] [box b5 [pv b2, .pointer (some ⟨b2, 1, none⟩), .pointer (some ⟨b2, 2, none⟩), .pointer (some ⟨b2, 3, none⟩), .pointer (some ⟨b2, 4, none⟩)] 204, box b4 [pv b1, .pointer (some ⟨b1, 1, none⟩), .pointer (some ⟨b1, 2, none⟩), .pointer (some ⟨b1, 3, none⟩), .pointer (some ⟨b1, 4, none⟩)] 204, box b3 kvV14_1 73, box b2 (untC b) 73, box b1 [iv (a.gM + ((-1) * b.gM)), iv (a.gKg + ((-1) * b.gKg)), iv (a.gS + ((-1) * b.gS)), iv (a.gA + ((-1) * b.gA)), iv a.gK] 73] (by kernel_rfl) rfl (by kernel_rfl) (by kernel_rfl) rfl ?_
   intro w19 S19
   refine TL.done (by kernel_rfl) ?_
   refine J.r 20 [true] [(10, iv 4), (22, iv 4)] [] ?_
   refine J.drawTail S19 14 Tryz.mixed (by kernel_rfl) (by kernel_rfl) ?_
   intro w20 S20
   refine SL.r 25 (iv 4) ?_
   refine SL.ok (by decide) (OK.indexP 26 204 5 1 b4 0 4 4 (by kernel_rfl) (by kernel_rfl) (by omega) (by omega)) ?_
   refine SL.head (.pointer (some ⟨b4, 4, none⟩)) (by first | rfl | (rw [Nat.zero_add, Nat.mul_one])) ?_
   refine SL.lb S20 1 rfl 27 (.pointer (some ⟨b1, 4, none⟩)) ?_
   refine SL.r 28 (.pointer (some ⟨b1, 4, none⟩)) ?_
   refine SL.lb S20 4 rfl 29 (iv a.gK) ?_
   refine SL.r 30 (iv (-1)) ?_
   refine SL.r 31 (iv 4) ?_
   refine SL.ok (by decide) (OK.indexP 32 204 5 1 b5 0 4 4 (by kernel_rfl) (by kernel_rfl) (by omega) (by omega)) ?_
   refine SL.head (.pointer (some ⟨b5, 4, none⟩)) (by first | rfl | (rw [Nat.zero_add, Nat.mul_one])) ?_
   refine SL.lb S20 0 rfl 33 (.pointer (some ⟨b2, 4, none⟩)) ?_
   refine SL.r 34 (.pointer (some ⟨b2, 4, none⟩)) ?_
   refine SL.lb S20 3 rfl 35 (iv b.gK) ?_
   refine SL.r 36 (iv (IntKind.wrap .i64 ((-1) * b.gK))) ?_
   refine SL.head (iv ((-1) * b.gK)) (congrArg (Value.int .i64) (IntWalk.i64_in _ (by omega))) ?_
   refine SL.r 37 (iv (IntKind.wrap .i64 (a.gK + ((-1) * b.gK)))) ?_
   refine SL.head (iv (a.gK + ((-1) * b.gK))) (congrArg (Value.int .i64) (IntWalk.i64_in _ (by omega))) ?_
   refine SL.r 38 (.pointer (some ⟨b1, 4, none⟩)) ?_
   refine SL.done ?_
   refine TL.stBox S20 4 3 4 (iv (a.gK + ((-1) * b.gK))) [iv (a.gM + ((-1) * b.gM)), iv (a.gKg + ((-1) * b.gKg)), iv (a.gS + ((-1) * b.gS)), iv (a.gA + ((-1) * b.gA)), iv (a.gK + ((-1) * b.gK))] [box b5 [pv b2, .pointer (some ⟨b2, 1, none⟩), .pointer (some ⟨b2, 2, none⟩), .pointer (some ⟨b2, 3, none⟩), .pointer (some ⟨b2, 4, none⟩)] 204, box b4 [pv b1, .pointer (some ⟨b1, 1, none⟩), .pointer (some ⟨b1, 2, none⟩), .pointer (some ⟨b1, 3, none⟩), .pointer (some ⟨b1, 4, none⟩)] 204, box b3 kvV14_1 73, box b2 (untC b) 73, box b1 [iv (a.gM + ((-1) * b.gM)), iv (a.gKg + ((-1) * b.gKg)), iv (a.gS + ((-1) * b.gS)), iv (a.gA + ((-1) * b.gA)), iv (a.gK + ((-1) * b.gK))] 73] (by kernel_rfl) rfl (by kernel_rfl) (by kernel_rfl) rfl ?_
   intro w21 S21
   refine TL.done (by kernel_rfl) ?_
   refine J.lb 16 [false] [] [22] S21 4 rfl 40 (.agg #[iv (a.gM + ((-1) * b.gM)), iv (a.gKg + ((-1) * b.gKg)), iv (a.gS + ((-1) * b.gS)), iv (a.gA + ((-1) * b.gA)), iv (a.gK + ((-1) * b.gK))]) ?_
   refine J.c0 0 [] [] [] S21 41 hb144 (uvalid_any (⟨a.gM + ((-1) * b.gM), a.gKg + ((-1) * b.gKg), a.gS + ((-1) * b.gS), a.gA + ((-1) * b.gA), a.gK + ((-1) * b.gK)⟩ : Unt) _) fun w22 S22 => ?_
   refine J.bn 2 [] [] [] 42 (unB (⟨a.gM + ((-1) * b.gM), a.gKg + ((-1) * b.gKg), a.gS + ((-1) * b.gS), a.gA + ((-1) * b.gA), a.gK + ((-1) * b.gK)⟩ : Unt)) (fun fk3 => ?_) fun fk3 => ?_
   ·skip
    have fb3 := unB_iff.1 fk3
    try dsimp only at fb3
    refine J.lb 4 [false] [] [] S22 4 rfl 44 (.agg #[iv (a.gM + ((-1) * b.gM)), iv (a.gKg + ((-1) * b.gKg)), iv (a.gS + ((-1) * b.gS)), iv (a.gA + ((-1) * b.gA)), iv (a.gK + ((-1) * b.gK))]) ?_
    refine J.sb 0 [] [] [] S22 2 rfl [iv (a.gM + ((-1) * b.gM)), iv (a.gKg + ((-1) * b.gKg)), iv (a.gS + ((-1) * b.gS)), iv (a.gA + ((-1) * b.gA)), iv (a.gK + ((-1) * b.gK))] rfl fun w23 S23 => ?_
    refine J.r 2 [] [(7, iv 0)] [] ?_
    refine J.ret Tryz.f215 [.agg #[iv (a.gM + ((-1) * b.gM)), iv (a.gKg + ((-1) * b.gKg)), iv (a.gS + ((-1) * b.gS)), iv (a.gA + ((-1) * b.gA)), iv (a.gK + ((-1) * b.gK))], iv 0] Tryz.func215 ⟨⟨⟨b3, 0, none⟩, by kernel_rfl, ldV_run (S23.nth 2 rfl) (by kernel_rfl)⟩, by kernel_rfl, trivial⟩ ?_
    refine hR _ _ ?_
    obtain ⟨e1, e2⟩ := un_in (a := a) (b := b) (s := (-1)) fk1 fk2 fk3
    exact ⟨by rw [e1, e2]; rfl, S23.nil⟩
   have fb4 := mt unB_iff.2 (by rw [fk3]; decide)
   try dsimp only at fb4
   refine J.sb 4 [true] [] [] S22 2 rfl kvV14_1 rfl fun w24 S24 => ?_
   refine J.r 2 [] [(7, iv 2)] [] ?_
   refine J.ret Tryz.f215 [.agg kvV14_2, iv 2] Tryz.func215 ⟨⟨⟨b3, 0, none⟩, by kernel_rfl, ldV_run (S24.nth 2 rfl) (by kernel_rfl)⟩, by kernel_rfl, trivial⟩ ?_
   refine hR _ _ ?_
   obtain ⟨e1, e2⟩ := un_out (a := a) (b := b) (s := (-1)) fk1 fk2 fk3
   exact ⟨by rw [e1, e2]; rfl, S24.nil⟩
  have fb5 := mt unB_iff.2 (by rw [fk2]; decide)
  try dsimp only at fb5
  refine J.sb 4 [true] [] [] S5 0 rfl kvV14_1 rfl fun w25 S25 => ?_
  refine J.r 2 [] [(7, iv 1)] [] ?_
  refine J.ret Tryz.f215 [.agg kvV14_2, iv 1] Tryz.func215 ⟨⟨⟨b3, 0, none⟩, by kernel_rfl, ldV_run (S25.nth 0 rfl) (by kernel_rfl)⟩, by kernel_rfl, trivial⟩ ?_
  refine hR _ _ ?_
  obtain ⟨e1, e2⟩ := un_bad (a := a) (b := b) (s := (-1)) (by first | exact .inl fk2 | exact .inr fk2)
  exact ⟨by rw [e1, e2]; rfl, S25.nil⟩
 have fb6 := mt unB_iff.2 (by rw [fk1]; decide)
 try dsimp only at fb6
 refine J.sb 9 [true] [] [] S4 0 rfl kvV14_1 rfl fun w26 S26 => ?_
 refine J.r 2 [] [(7, iv 1)] [] ?_
 refine J.ret Tryz.f215 [.agg kvV14_2, iv 1] Tryz.func215 ⟨⟨⟨b3, 0, none⟩, by kernel_rfl, ldV_run (S26.nth 0 rfl) (by kernel_rfl)⟩, by kernel_rfl, trivial⟩ ?_
 refine hR _ _ ?_
 obtain ⟨e1, e2⟩ := un_bad (a := a) (b := b) (s := (-1)) (by first | exact .inl fk1 | exact .inr fk1)
 exact ⟨by rw [e1, e2]; rfl, S26.nil⟩

theorem hb186 : HasBody Tryz.prog 186 := fun _ _ => by kernel_rfl

theorem umul_any (a b : Unt) (w : World) : Ret Tryz.prog 186 #[.agg (untA a), .agg (untA b)] w (fun v w' => v = .tuple #[.agg #[iv (unX a b 1).gM, iv (unX a b 1).gKg, iv (unX a b 1).gS, iv (unX a b 1).gA, iv (unX a b 1).gK], iv (unE a b 1)] ∧ Sep w [] w') := by
 refine Ret.st (N := 11) Tryz.func186 fun R hR S0 => ?_
 refine J.nw 2 [] [] [] S0 2 (untC a) 73 fun b1 w1 S1 => ?_
 refine J.nw 0 [] [] [] S1 3 (untC b) 73 fun b2 w2 S2 => ?_
 refine J.nw 0 [] [] [] S2 4 kvV14_1 73 fun b3 w3 S3 => ?_
 refine J.lb 4 [] [] [] S3 2 rfl 6 (.agg (untA a)) ?_
 refine J.lb 0 [] [] [] S3 1 rfl 7 (.agg (untA b)) ?_
 refine J.c0 0 [] [] [] S3 8 hb215 (ucomb_any a b _) fun w4 S4 => ?_
 refine J.sb 2 [] [(10, iv (unE a b 1))] [] S4 0 rfl (untC (unX a b 1)) rfl fun w5 S5 => ?_
 refine J.r 2 [] [(5, iv (unE a b 1))] [] ?_
 refine J.ret Tryz.f186 [.agg (untA (unX a b 1)), iv (unE a b 1)] Tryz.func186 ⟨⟨⟨b3, 0, none⟩, by kernel_rfl, ldV_run (S5.nth 0 rfl) (by kernel_rfl)⟩, by kernel_rfl, trivial⟩ ?_
 refine hR _ _ ?_
 exact ⟨rfl, S5.nil⟩

theorem hb187 : HasBody Tryz.prog 187 := fun _ _ => by kernel_rfl

theorem udiv_any (a b : Unt) (w : World) : Ret Tryz.prog 187 #[.agg (untA a), .agg (untA b)] w (fun v w' => v = .tuple #[.agg #[iv (unX a b (-1)).gM, iv (unX a b (-1)).gKg, iv (unX a b (-1)).gS, iv (unX a b (-1)).gA, iv (unX a b (-1)).gK], iv (unE a b (-1))] ∧ Sep w [] w') := by
 refine Ret.st (N := 11) Tryz.func187 fun R hR S0 => ?_
 refine J.nw 2 [] [] [] S0 2 (untC a) 73 fun b1 w1 S1 => ?_
 refine J.nw 0 [] [] [] S1 3 (untC b) 73 fun b2 w2 S2 => ?_
 refine J.nw 0 [] [] [] S2 4 kvV14_1 73 fun b3 w3 S3 => ?_
 refine J.lb 4 [] [] [] S3 2 rfl 6 (.agg (untA a)) ?_
 refine J.lb 0 [] [] [] S3 1 rfl 7 (.agg (untA b)) ?_
 refine J.c0 0 [] [] [] S3 8 hb215 (ucombm_any a b _) fun w4 S4 => ?_
 refine J.sb 2 [] [(10, iv (unE a b (-1)))] [] S4 0 rfl (untC (unX a b (-1))) rfl fun w5 S5 => ?_
 refine J.r 2 [] [(5, iv (unE a b (-1)))] [] ?_
 refine J.ret Tryz.f187 [.agg (untA (unX a b (-1))), iv (unE a b (-1))] Tryz.func187 ⟨⟨⟨b3, 0, none⟩, by kernel_rfl, ldV_run (S5.nth 0 rfl) (by kernel_rfl)⟩, by kernel_rfl, trivial⟩ ?_
 refine hR _ _ ?_
 exact ⟨rfl, S5.nil⟩

end Go.Proofs.YtaoolgcddapegaaGreatDoor

namespace Go.Proofs.YtaoolgcddapegaaGreatDoor
open Go.Eng Go.RowKit
set_option linter.unusedSimpArgs false
set_option linter.unusedVariables false
set_option maxRecDepth 20000
set_option maxHeartbeats 20000000
theorem hb95 : HasBody Tryz.prog 95 := fun _ _ => by kernel_rfl

theorem fxvalid_any (t : Fxd) (w : World) (ht : fxdQ w t) : Ret Tryz.prog 95 #[.agg (fxdA t)] w (fun v w' => v = .bool (fixB t) ∧ Sep w [] w') := by
 refine Ret.st (N := 51) Tryz.func95 fun R hR S0 => ?_
 obtain ⟨q1, q2, q3, q4, q5, q6, q7, q8, q9, _⟩ := id ht
 refine J.nw 2 [] [] [] S0 1 (fxdC t) 75 fun b1 w1 S1 => ?_
 refine J.lb 5 [] [] [] S1 0 rfl 4 (iv t.gBits) ?_
 refine J.c 2 [] [] [] 6 (t.gBits = 8) (fun fk1 => ?_) fun fk1 => ?_
 ·skip
  refine J.lb 11 [] [(16, .bool true)] [] S1 0 rfl 18 (iv t.gNum) ?_
  refine J.c 3 [] [] [] 21 (t.gNum ≥ 1) (fun fk2 => ?_) fun fk2 => ?_
  ·skip
   refine J.lb 1 [] [] [] S1 0 rfl 23 (iv t.gNum) ?_
   refine J.c 3 [] [] [] 26 (t.gNum ≤ 1048576) (fun fk3 => ?_) fun fk3 => ?_
   ·skip
    refine J.lb 1 [] [] [] S1 0 rfl 28 (iv t.gDen) ?_
    refine J.c 3 [] [] [] 31 (t.gDen ≥ 1) (fun fk4 => ?_) fun fk4 => ?_
    ·skip
     refine J.lb 1 [] [] [] S1 0 rfl 33 (iv t.gDen) ?_
     refine J.c 3 [] [] [] 36 (t.gDen ≤ 1048576) (fun fk5 => ?_) fun fk5 => ?_
     ·skip
      refine J.lb 1 [] [] [] S1 0 rfl 38 (iv t.gOff) ?_
      refine J.c 3 [] [] [] 41 (t.gOff ≥ (-1073741824)) (fun fk6 => ?_) fun fk6 => ?_
      ·skip
       refine J.lb 1 [] [] [] S1 0 rfl 43 (iv t.gOff) ?_
       refine J.c 3 [] [] [] 46 (t.gOff ≤ 1073741824) (fun fk7 => ?_) fun fk7 => ?_
       ·skip
        refine J.lb 1 [] [] [] S1 0 rfl 48 (.agg #[iv t.gUnit_M, iv t.gUnit_Kg, iv t.gUnit_S, iv t.gUnit_A, iv t.gUnit_K]) ?_
        refine J.c0 0 [] [] [] S1 49 hb144 (uvalid_any (⟨t.gUnit_M, t.gUnit_Kg, t.gUnit_S, t.gUnit_A, t.gUnit_K⟩ : Unt) _) fun w2 S2 => ?_
        refine J.e 3 [.bool (unB (⟨t.gUnit_M, t.gUnit_Kg, t.gUnit_S, t.gUnit_A, t.gUnit_K⟩ : Unt))] Tryz.func95 (hR _ _ ?_)
        exact ⟨congrArg Value.bool (by show _ = decide (fixP t.gBits t.gNum t.gOff t.gDen t.gUnit_M t.gUnit_Kg t.gUnit_S t.gUnit_A t.gUnit_K); cases hz_ : unB (⟨t.gUnit_M, t.gUnit_Kg, t.gUnit_S, t.gUnit_A, t.gUnit_K⟩ : Unt) with | true => (have h_ := unB_iff.1 hz_; try dsimp only at h_; exact (decide_eq_true (by omega)).symm) | false => (have h_ := mt unB_iff.2 (by rw [hz_]; decide); try dsimp only at h_; exact (decide_eq_false (by omega)).symm)), S2.nil⟩
       refine J.e 6 [.bool false] Tryz.func95 (hR _ _ ?_)
       exact ⟨congrArg Value.bool (decide_eq_false (show ¬ (fixP t.gBits t.gNum t.gOff t.gDen t.gUnit_M t.gUnit_Kg t.gUnit_S t.gUnit_A t.gUnit_K) by omega)).symm, S1.nil⟩
      refine J.e 11 [.bool false] Tryz.func95 (hR _ _ ?_)
      exact ⟨congrArg Value.bool (decide_eq_false (show ¬ (fixP t.gBits t.gNum t.gOff t.gDen t.gUnit_M t.gUnit_Kg t.gUnit_S t.gUnit_A t.gUnit_K) by omega)).symm, S1.nil⟩
     refine J.e 16 [.bool false] Tryz.func95 (hR _ _ ?_)
     exact ⟨congrArg Value.bool (decide_eq_false (show ¬ (fixP t.gBits t.gNum t.gOff t.gDen t.gUnit_M t.gUnit_Kg t.gUnit_S t.gUnit_A t.gUnit_K) by omega)).symm, S1.nil⟩
    refine J.e 21 [.bool false] Tryz.func95 (hR _ _ ?_)
    exact ⟨congrArg Value.bool (decide_eq_false (show ¬ (fixP t.gBits t.gNum t.gOff t.gDen t.gUnit_M t.gUnit_Kg t.gUnit_S t.gUnit_A t.gUnit_K) by omega)).symm, S1.nil⟩
   refine J.e 26 [.bool false] Tryz.func95 (hR _ _ ?_)
   exact ⟨congrArg Value.bool (decide_eq_false (show ¬ (fixP t.gBits t.gNum t.gOff t.gDen t.gUnit_M t.gUnit_Kg t.gUnit_S t.gUnit_A t.gUnit_K) by omega)).symm, S1.nil⟩
  refine J.e 31 [.bool false] Tryz.func95 (hR _ _ ?_)
  exact ⟨congrArg Value.bool (decide_eq_false (show ¬ (fixP t.gBits t.gNum t.gOff t.gDen t.gUnit_M t.gUnit_Kg t.gUnit_S t.gUnit_A t.gUnit_K) by omega)).symm, S1.nil⟩
 refine J.lb 1 [] [] [] S1 0 rfl 8 (iv t.gBits) ?_
 refine J.c 3 [] [] [] 11 (t.gBits = 16) (fun fk8 => ?_) fun fk8 => ?_
 ·skip
  refine J.lb 6 [] [(16, .bool true)] [] S1 0 rfl 18 (iv t.gNum) ?_
  refine J.c 3 [] [] [] 21 (t.gNum ≥ 1) (fun fk9 => ?_) fun fk9 => ?_
  ·skip
   refine J.lb 1 [] [] [] S1 0 rfl 23 (iv t.gNum) ?_
   refine J.c 3 [] [] [] 26 (t.gNum ≤ 1048576) (fun fk10 => ?_) fun fk10 => ?_
   ·skip
    refine J.lb 1 [] [] [] S1 0 rfl 28 (iv t.gDen) ?_
    refine J.c 3 [] [] [] 31 (t.gDen ≥ 1) (fun fk11 => ?_) fun fk11 => ?_
    ·skip
     refine J.lb 1 [] [] [] S1 0 rfl 33 (iv t.gDen) ?_
     refine J.c 3 [] [] [] 36 (t.gDen ≤ 1048576) (fun fk12 => ?_) fun fk12 => ?_
     ·skip
      refine J.lb 1 [] [] [] S1 0 rfl 38 (iv t.gOff) ?_
      refine J.c 3 [] [] [] 41 (t.gOff ≥ (-1073741824)) (fun fk13 => ?_) fun fk13 => ?_
      ·skip
       refine J.lb 1 [] [] [] S1 0 rfl 43 (iv t.gOff) ?_
       refine J.c 3 [] [] [] 46 (t.gOff ≤ 1073741824) (fun fk14 => ?_) fun fk14 => ?_
       ·skip
        refine J.lb 1 [] [] [] S1 0 rfl 48 (.agg #[iv t.gUnit_M, iv t.gUnit_Kg, iv t.gUnit_S, iv t.gUnit_A, iv t.gUnit_K]) ?_
        refine J.c0 0 [] [] [] S1 49 hb144 (uvalid_any (⟨t.gUnit_M, t.gUnit_Kg, t.gUnit_S, t.gUnit_A, t.gUnit_K⟩ : Unt) _) fun w3 S3 => ?_
        refine J.e 3 [.bool (unB (⟨t.gUnit_M, t.gUnit_Kg, t.gUnit_S, t.gUnit_A, t.gUnit_K⟩ : Unt))] Tryz.func95 (hR _ _ ?_)
        exact ⟨congrArg Value.bool (by show _ = decide (fixP t.gBits t.gNum t.gOff t.gDen t.gUnit_M t.gUnit_Kg t.gUnit_S t.gUnit_A t.gUnit_K); cases hz_ : unB (⟨t.gUnit_M, t.gUnit_Kg, t.gUnit_S, t.gUnit_A, t.gUnit_K⟩ : Unt) with | true => (have h_ := unB_iff.1 hz_; try dsimp only at h_; exact (decide_eq_true (by omega)).symm) | false => (have h_ := mt unB_iff.2 (by rw [hz_]; decide); try dsimp only at h_; exact (decide_eq_false (by omega)).symm)), S3.nil⟩
       refine J.e 6 [.bool false] Tryz.func95 (hR _ _ ?_)
       exact ⟨congrArg Value.bool (decide_eq_false (show ¬ (fixP t.gBits t.gNum t.gOff t.gDen t.gUnit_M t.gUnit_Kg t.gUnit_S t.gUnit_A t.gUnit_K) by omega)).symm, S1.nil⟩
      refine J.e 11 [.bool false] Tryz.func95 (hR _ _ ?_)
      exact ⟨congrArg Value.bool (decide_eq_false (show ¬ (fixP t.gBits t.gNum t.gOff t.gDen t.gUnit_M t.gUnit_Kg t.gUnit_S t.gUnit_A t.gUnit_K) by omega)).symm, S1.nil⟩
     refine J.e 16 [.bool false] Tryz.func95 (hR _ _ ?_)
     exact ⟨congrArg Value.bool (decide_eq_false (show ¬ (fixP t.gBits t.gNum t.gOff t.gDen t.gUnit_M t.gUnit_Kg t.gUnit_S t.gUnit_A t.gUnit_K) by omega)).symm, S1.nil⟩
    refine J.e 21 [.bool false] Tryz.func95 (hR _ _ ?_)
    exact ⟨congrArg Value.bool (decide_eq_false (show ¬ (fixP t.gBits t.gNum t.gOff t.gDen t.gUnit_M t.gUnit_Kg t.gUnit_S t.gUnit_A t.gUnit_K) by omega)).symm, S1.nil⟩
   refine J.e 26 [.bool false] Tryz.func95 (hR _ _ ?_)
   exact ⟨congrArg Value.bool (decide_eq_false (show ¬ (fixP t.gBits t.gNum t.gOff t.gDen t.gUnit_M t.gUnit_Kg t.gUnit_S t.gUnit_A t.gUnit_K) by omega)).symm, S1.nil⟩
  refine J.e 31 [.bool false] Tryz.func95 (hR _ _ ?_)
  exact ⟨congrArg Value.bool (decide_eq_false (show ¬ (fixP t.gBits t.gNum t.gOff t.gDen t.gUnit_M t.gUnit_Kg t.gUnit_S t.gUnit_A t.gUnit_K) by omega)).symm, S1.nil⟩
 refine J.lb 1 [] [] [] S1 0 rfl 13 (iv t.gBits) ?_
 refine J.c 3 [] [] [] 16 (t.gBits = 32) (fun fk15 => ?_) fun fk15 => ?_
 ·skip
  refine J.lb 1 [] [] [] S1 0 rfl 18 (iv t.gNum) ?_
  refine J.c 3 [] [] [] 21 (t.gNum ≥ 1) (fun fk16 => ?_) fun fk16 => ?_
  ·skip
   refine J.lb 1 [] [] [] S1 0 rfl 23 (iv t.gNum) ?_
   refine J.c 3 [] [] [] 26 (t.gNum ≤ 1048576) (fun fk17 => ?_) fun fk17 => ?_
   ·skip
    refine J.lb 1 [] [] [] S1 0 rfl 28 (iv t.gDen) ?_
    refine J.c 3 [] [] [] 31 (t.gDen ≥ 1) (fun fk18 => ?_) fun fk18 => ?_
    ·skip
     refine J.lb 1 [] [] [] S1 0 rfl 33 (iv t.gDen) ?_
     refine J.c 3 [] [] [] 36 (t.gDen ≤ 1048576) (fun fk19 => ?_) fun fk19 => ?_
     ·skip
      refine J.lb 1 [] [] [] S1 0 rfl 38 (iv t.gOff) ?_
      refine J.c 3 [] [] [] 41 (t.gOff ≥ (-1073741824)) (fun fk20 => ?_) fun fk20 => ?_
      ·skip
       refine J.lb 1 [] [] [] S1 0 rfl 43 (iv t.gOff) ?_
       refine J.c 3 [] [] [] 46 (t.gOff ≤ 1073741824) (fun fk21 => ?_) fun fk21 => ?_
       ·skip
        refine J.lb 1 [] [] [] S1 0 rfl 48 (.agg #[iv t.gUnit_M, iv t.gUnit_Kg, iv t.gUnit_S, iv t.gUnit_A, iv t.gUnit_K]) ?_
        refine J.c0 0 [] [] [] S1 49 hb144 (uvalid_any (⟨t.gUnit_M, t.gUnit_Kg, t.gUnit_S, t.gUnit_A, t.gUnit_K⟩ : Unt) _) fun w4 S4 => ?_
        refine J.e 3 [.bool (unB (⟨t.gUnit_M, t.gUnit_Kg, t.gUnit_S, t.gUnit_A, t.gUnit_K⟩ : Unt))] Tryz.func95 (hR _ _ ?_)
        exact ⟨congrArg Value.bool (by show _ = decide (fixP t.gBits t.gNum t.gOff t.gDen t.gUnit_M t.gUnit_Kg t.gUnit_S t.gUnit_A t.gUnit_K); cases hz_ : unB (⟨t.gUnit_M, t.gUnit_Kg, t.gUnit_S, t.gUnit_A, t.gUnit_K⟩ : Unt) with | true => (have h_ := unB_iff.1 hz_; try dsimp only at h_; exact (decide_eq_true (by omega)).symm) | false => (have h_ := mt unB_iff.2 (by rw [hz_]; decide); try dsimp only at h_; exact (decide_eq_false (by omega)).symm)), S4.nil⟩
       refine J.e 6 [.bool false] Tryz.func95 (hR _ _ ?_)
       exact ⟨congrArg Value.bool (decide_eq_false (show ¬ (fixP t.gBits t.gNum t.gOff t.gDen t.gUnit_M t.gUnit_Kg t.gUnit_S t.gUnit_A t.gUnit_K) by omega)).symm, S1.nil⟩
      refine J.e 11 [.bool false] Tryz.func95 (hR _ _ ?_)
      exact ⟨congrArg Value.bool (decide_eq_false (show ¬ (fixP t.gBits t.gNum t.gOff t.gDen t.gUnit_M t.gUnit_Kg t.gUnit_S t.gUnit_A t.gUnit_K) by omega)).symm, S1.nil⟩
     refine J.e 16 [.bool false] Tryz.func95 (hR _ _ ?_)
     exact ⟨congrArg Value.bool (decide_eq_false (show ¬ (fixP t.gBits t.gNum t.gOff t.gDen t.gUnit_M t.gUnit_Kg t.gUnit_S t.gUnit_A t.gUnit_K) by omega)).symm, S1.nil⟩
    refine J.e 21 [.bool false] Tryz.func95 (hR _ _ ?_)
    exact ⟨congrArg Value.bool (decide_eq_false (show ¬ (fixP t.gBits t.gNum t.gOff t.gDen t.gUnit_M t.gUnit_Kg t.gUnit_S t.gUnit_A t.gUnit_K) by omega)).symm, S1.nil⟩
   refine J.e 26 [.bool false] Tryz.func95 (hR _ _ ?_)
   exact ⟨congrArg Value.bool (decide_eq_false (show ¬ (fixP t.gBits t.gNum t.gOff t.gDen t.gUnit_M t.gUnit_Kg t.gUnit_S t.gUnit_A t.gUnit_K) by omega)).symm, S1.nil⟩
  refine J.e 31 [.bool false] Tryz.func95 (hR _ _ ?_)
  exact ⟨congrArg Value.bool (decide_eq_false (show ¬ (fixP t.gBits t.gNum t.gOff t.gDen t.gUnit_M t.gUnit_Kg t.gUnit_S t.gUnit_A t.gUnit_K) by omega)).symm, S1.nil⟩
 refine J.e 36 [.bool false] Tryz.func95 (hR _ _ ?_)
 exact ⟨congrArg Value.bool (decide_eq_false (show ¬ (fixP t.gBits t.gNum t.gOff t.gDen t.gUnit_M t.gUnit_Kg t.gUnit_S t.gUnit_A t.gUnit_K) by omega)).symm, S1.nil⟩

end Go.Proofs.YtaoolgcddapegaaGreatDoor

