/- Walks of functions of this seat, printed by a program over the engine. Conditions: as each theorem says. -/
import Derived.Test.YthfpejhonhaggaaGreatDoorZV2
namespace Go.Proofs.YthfpejhonhaggaaGreatDoor
open Go.Eng Go.RowKit
set_option linter.unusedSimpArgs false
set_option linter.unusedVariables false
abbrev kvV3_1 : List Value := [iv 0, iv 0, iv 0, iv 0, iv 0]
abbrev kvV3_2 : Array Value := #[iv 0, iv 0, iv 0, iv 0, iv 0]
structure Unt where
  gM : Int
  gKg : Int
  gS : Int
  gA : Int
  gK : Int
abbrev untC (x : Unt) : List Value := [iv x.gM, iv x.gKg, iv x.gS, iv x.gA, iv x.gK]
abbrev untA (x : Unt) : Array Value := #[iv x.gM, iv x.gKg, iv x.gS, iv x.gA, iv x.gK]
structure Fxd where
  gBits : Int
  gSigned : Bool
  gNum : Int
  gOff : Int
  gDen : Int
  gUnit_M : Int
  gUnit_Kg : Int
  gUnit_S : Int
  gUnit_A : Int
  gUnit_K : Int
def fxdE (x : Fxd) : List Value := [iv x.gBits, .bool x.gSigned, iv x.gNum, iv x.gOff, iv x.gDen, iv x.gUnit_M, iv x.gUnit_Kg, iv x.gUnit_S, iv x.gUnit_A, iv x.gUnit_K]
def fxdQ (w : World) (x : Fxd) : Prop := ((-9223372036854775808) ≤ x.gBits ∧ x.gBits ≤ 9223372036854775807) ∧ ((-9223372036854775808) ≤ x.gNum ∧ x.gNum ≤ 9223372036854775807) ∧ ((-9223372036854775808) ≤ x.gOff ∧ x.gOff ≤ 9223372036854775807) ∧ ((-9223372036854775808) ≤ x.gDen ∧ x.gDen ≤ 9223372036854775807) ∧ ((-9223372036854775808) ≤ x.gUnit_M ∧ x.gUnit_M ≤ 9223372036854775807) ∧ ((-9223372036854775808) ≤ x.gUnit_Kg ∧ x.gUnit_Kg ≤ 9223372036854775807) ∧ ((-9223372036854775808) ≤ x.gUnit_S ∧ x.gUnit_S ≤ 9223372036854775807) ∧ ((-9223372036854775808) ≤ x.gUnit_A ∧ x.gUnit_A ≤ 9223372036854775807) ∧ ((-9223372036854775808) ≤ x.gUnit_K ∧ x.gUnit_K ≤ 9223372036854775807) ∧ True
theorem fxdQ_sep {w0 w : World} {L : List Eng.Claim} {x : Fxd} (h : fxdQ w0 x) (S : Sep w0 L w) : fxdQ w x := by
  obtain ⟨hgBits, hgNum, hgOff, hgDen, hgUnit_M, hgUnit_Kg, hgUnit_S, hgUnit_A, hgUnit_K, _⟩ := h
  exact ⟨hgBits, hgNum, hgOff, hgDen, hgUnit_M, hgUnit_Kg, hgUnit_S, hgUnit_A, hgUnit_K, trivial⟩
abbrev fxdC (x : Fxd) : List Value := [iv x.gBits, .bool x.gSigned, iv x.gNum, iv x.gOff, iv x.gDen, iv x.gUnit_M, iv x.gUnit_Kg, iv x.gUnit_S, iv x.gUnit_A, iv x.gUnit_K]
abbrev fxdA (x : Fxd) : Array Value := #[iv x.gBits, .bool x.gSigned, iv x.gNum, iv x.gOff, iv x.gDen, iv x.gUnit_M, iv x.gUnit_Kg, iv x.gUnit_S, iv x.gUnit_A, iv x.gUnit_K]
/-! layers 2 and 3: units and types; layer 13: what a valid program is -/
abbrev unP (m kg s a k : Int) : Prop := (-9 ≤ m ∧ m ≤ 9) ∧ (-9 ≤ kg ∧ kg ≤ 9) ∧ (-9 ≤ s ∧ s ≤ 9) ∧ (-9 ≤ a ∧ a ≤ 9) ∧ (-9 ≤ k ∧ k ≤ 9)
def unB (u : Unt) : Bool := decide (unP u.gM u.gKg u.gS u.gA u.gK)
theorem unB_iff {u : Unt} : unB u = true ↔ unP u.gM u.gKg u.gS u.gA u.gK := by unfold unB; exact decide_eq_true_iff
abbrev un0 : Unt := ⟨0, 0, 0, 0, 0⟩
def unC (a b : Unt) (s : Int) : Unt := ⟨a.gM + s * b.gM, a.gKg + s * b.gKg, a.gS + s * b.gS, a.gA + s * b.gA, a.gK + s * b.gK⟩
def unX (a b : Unt) (s : Int) : Unt := if unB a && unB b && unB (unC a b s) then unC a b s else un0
def unE (a b : Unt) (s : Int) : Int := if unB a && unB b then (if unB (unC a b s) then 0 else 2) else 1
theorem un_bad {a b : Unt} {s : Int} (h : unB a = false ∨ unB b = false) : unX a b s = un0 ∧ unE a b s = 1 := by
  unfold unX unE; rcases h with h | h <;> rw [h] <;> simp
theorem un_out {a b : Unt} {s : Int} (ha : unB a = true) (hb : unB b = true) (h : unB (unC a b s) = false) : unX a b s = un0 ∧ unE a b s = 2 := by
  unfold unX unE; rw [ha, hb, h]; simp
theorem un_in {a b : Unt} {s : Int} (ha : unB a = true) (hb : unB b = true) (h : unB (unC a b s) = true) : unX a b s = unC a b s ∧ unE a b s = 0 := by
  unfold unX unE; rw [ha, hb, h]; simp
def unEq (a b : Unt) : Bool := (a.gM == b.gM) && ((a.gKg == b.gKg) && ((a.gS == b.gS) && ((a.gA == b.gA) && (a.gK == b.gK))))
abbrev fixP (bits num off den m kg s a k : Int) : Prop := (bits = 8 ∨ bits = 16 ∨ bits = 32) ∧ (1 ≤ num ∧ num ≤ 1048576) ∧ (1 ≤ den ∧ den ≤ 1048576) ∧ (-1073741824 ≤ off ∧ off ≤ 1073741824) ∧ unP m kg s a k
def fixB (t : Fxd) : Bool := decide (fixP t.gBits t.gNum t.gOff t.gDen t.gUnit_M t.gUnit_Kg t.gUnit_S t.gUnit_A t.gUnit_K)
def unitT (t : Fxd) : Unt := ⟨t.gUnit_M, t.gUnit_Kg, t.gUnit_S, t.gUnit_A, t.gUnit_K⟩
abbrev fx0 : Fxd := ⟨0, false, 0, 0, 0, 0, 0, 0, 0, 0⟩
def unitsB (op : Int) (a b t : Unt) : Bool :=
  if op = 5 ∨ op = 6 then unEq a b && unEq a t else if op = 7 then (unE a b 1 == 0) && unEq (unX a b 1) t else if op = 8 then (unE a b (-1) == 0) && unEq (unX a b (-1)) t else if op = 9 ∨ op = 10 then unEq a t else unEq a b

theorem hb87 : HasBody Tryz.prog 87 := fun _ _ => by kernel_rfl
noncomputable def K87_0 : List Item := adv 2 [] (bodyOf Tryz.f87)
noncomputable def K87_1 : List Item := adv 2 [] (popK K87_0)
set_option maxRecDepth 20000 in
set_option maxHeartbeats 20000000 in
theorem expo_any (b : Nat) (w : World) : Ret Tryz.prog 87 #[pv b] w (fun v w' => v = .agg #[pv b, .pointer (some ⟨b, 1, none⟩), .pointer (some ⟨b, 2, none⟩), .pointer (some ⟨b, 3, none⟩), .pointer (some ⟨b, 4, none⟩)] ∧ Sep w [] w') := by
 have S0 := Sep.refl w
 refine Ret.named fun R hR => ?_
 refine Ret.of_J (N := 19) [(0, pv b)] Tryz.func87 rfl rfl (Nat.le_of_ble_eq_true (by kernel_rfl)) (by kernel_rfl) ?_
 refine J.run 2 K87_0 [(0, pv b)] w (by kernel_rfl) ?_
 refine J.new S0 2 [.pointer none, .pointer none, .pointer none, .pointer none, .pointer none] 114 (by kernel_rfl) ?_
 intro b1 w1 S1
 refine J.run 2 K87_1 [(2, pv b1), (0, pv b)] w1 (by kernel_rfl) ?_
 refine J.drawTail S1 16 Tryz.mixed (by kernel_rfl) (by kernel_rfl) ?_
 intro w2 S2
 refine SL.ok (by decide) (OK.run 3 (pv b) (by kernel_rfl)) ?_
 refine SL.ok (by decide) (OK.run 4 (pv b) (by kernel_rfl)) ?_
 refine SL.ok (by decide) (OK.run 5 (pv b) (by kernel_rfl)) ?_
 refine SL.ok (by decide) (OK.run 6 (pv b) (by kernel_rfl)) ?_
 refine SL.ok (by decide) (OK.run 7 (pv b) (by kernel_rfl)) ?_
 refine SL.ok (by decide) (OK.run 8 (.pointer (some ⟨b, 1, none⟩)) (by kernel_rfl)) ?_
 refine SL.ok (by decide) (OK.run 9 (pv b) (by kernel_rfl)) ?_
 refine SL.ok (by decide) (OK.run 10 (pv b) (by kernel_rfl)) ?_
 refine SL.ok (by decide) (OK.run 11 (.pointer (some ⟨b, 2, none⟩)) (by kernel_rfl)) ?_
 refine SL.ok (by decide) (OK.run 12 (pv b) (by kernel_rfl)) ?_
 refine SL.ok (by decide) (OK.run 13 (pv b) (by kernel_rfl)) ?_
 refine SL.ok (by decide) (OK.run 14 (.pointer (some ⟨b, 3, none⟩)) (by kernel_rfl)) ?_
 refine SL.ok (by decide) (OK.run 15 (pv b) (by kernel_rfl)) ?_
 refine SL.ok (by decide) (OK.run 16 (pv b) (by kernel_rfl)) ?_
 refine SL.ok (by decide) (OK.run 17 (.pointer (some ⟨b, 4, none⟩)) (by kernel_rfl)) ?_
 refine SL.ok (by decide) (OK.run 18 (.agg #[pv b, .pointer (some ⟨b, 1, none⟩), .pointer (some ⟨b, 2, none⟩), .pointer (some ⟨b, 3, none⟩), .pointer (some ⟨b, 4, none⟩)]) (by kernel_rfl)) ?_
 refine SL.done ?_
 refine TL.stBox S2 0 114 0 (.agg #[pv b, .pointer (some ⟨b, 1, none⟩), .pointer (some ⟨b, 2, none⟩), .pointer (some ⟨b, 3, none⟩), .pointer (some ⟨b, 4, none⟩)]) [pv b, .pointer (some ⟨b, 1, none⟩), .pointer (some ⟨b, 2, none⟩), .pointer (some ⟨b, 3, none⟩), .pointer (some ⟨b, 4, none⟩)] [box b1 [pv b, .pointer (some ⟨b, 1, none⟩), .pointer (some ⟨b, 2, none⟩), .pointer (some ⟨b, 3, none⟩), .pointer (some ⟨b, 4, none⟩)] 114] (by kernel_rfl) rfl (by kernel_rfl) (by kernel_rfl) rfl ?_
 intro w3 S3
 refine TL.done (by kernel_rfl) ?_
 refine J.run 0 (rRest K87_1) [(2, pv b1)] w3 (by kernel_rfl) ?_
 refine J.ret Tryz.f87 [.agg #[pv b, .pointer (some ⟨b, 1, none⟩), .pointer (some ⟨b, 2, none⟩), .pointer (some ⟨b, 3, none⟩), .pointer (some ⟨b, 4, none⟩)]] Tryz.func87 ⟨⟨⟨b1, 0, none⟩, by kernel_rfl, ldV_run (S3.nth 0 rfl) (by kernel_rfl)⟩, trivial⟩ ?_
 refine hR _ _ ?_
 exact ⟨rfl, S3.nil⟩

theorem hb64 : HasBody Tryz.prog 64 := fun _ _ => by kernel_rfl
noncomputable def K64_0 : List Item := adv 2 [] (bodyOf Tryz.f64)
noncomputable def K64_1 : List Item := adv 5 [] (popK K64_0)
noncomputable def K64_2 : List Item := adv 22 [true] (popK K64_1)
noncomputable def K64_3 : List Item := adv 2 [] (popK K64_2)
noncomputable def K64_4 : List Item := adv 11 [true] K64_3
noncomputable def K64_5 : List Item := adv 2 [] K64_3
noncomputable def K64_6 : List Item := adv 3 [] (popK K64_5)
noncomputable def K64_7 : List Item := adv 5 [true] K64_6
noncomputable def K64_8 : List Item := adv 8 [false] K64_6
noncomputable def K64_9 : List Item := adv 18 [true] K64_8
noncomputable def K64_10 : List Item := adv 2 [] (popK K64_9)
noncomputable def K64_11 : List Item := adv 11 [true] K64_10
noncomputable def K64_12 : List Item := adv 2 [] K64_10
noncomputable def K64_13 : List Item := adv 3 [] (popK K64_12)
noncomputable def K64_14 : List Item := adv 5 [true] K64_13
noncomputable def K64_15 : List Item := adv 8 [false] K64_13
noncomputable def K64_16 : List Item := adv 18 [true] K64_15
noncomputable def K64_17 : List Item := adv 2 [] (popK K64_16)
noncomputable def K64_18 : List Item := adv 11 [true] K64_17
noncomputable def K64_19 : List Item := adv 2 [] K64_17
noncomputable def K64_20 : List Item := adv 3 [] (popK K64_19)
noncomputable def K64_21 : List Item := adv 5 [true] K64_20
noncomputable def K64_22 : List Item := adv 8 [false] K64_20
noncomputable def K64_23 : List Item := adv 18 [true] K64_22
noncomputable def K64_24 : List Item := adv 2 [] (popK K64_23)
noncomputable def K64_25 : List Item := adv 11 [true] K64_24
noncomputable def K64_26 : List Item := adv 2 [] K64_24
noncomputable def K64_27 : List Item := adv 3 [] (popK K64_26)
noncomputable def K64_28 : List Item := adv 5 [true] K64_27
noncomputable def K64_29 : List Item := adv 8 [false] K64_27
noncomputable def K64_30 : List Item := adv 18 [true] K64_29
noncomputable def K64_31 : List Item := adv 2 [] (popK K64_30)
noncomputable def K64_32 : List Item := adv 11 [true] K64_31
noncomputable def K64_33 : List Item := adv 2 [] K64_31
noncomputable def K64_34 : List Item := adv 3 [] (popK K64_33)
noncomputable def K64_35 : List Item := adv 5 [true] K64_34
noncomputable def K64_36 : List Item := adv 8 [false] K64_34
noncomputable def K64_37 : List Item := adv 11 [false] K64_36
set_option maxRecDepth 20000 in
set_option maxHeartbeats 20000000 in
theorem uvalid_any (u : Unt) (w : World) : Ret Tryz.prog 64 #[.agg (untA u)] w (fun v w' => v = .bool (unB u) ∧ Sep w [] w') := by
 have S0 := Sep.refl w
 refine Ret.named fun R hR => ?_
 refine Ret.of_J (N := 20) [(0, .agg (untA u))] Tryz.func64 rfl rfl (Nat.le_of_ble_eq_true (by kernel_rfl)) (by kernel_rfl) ?_
 refine J.run 2 K64_0 [(0, .agg (untA u))] w (by kernel_rfl) ?_
 refine J.new S0 1 (untC u) 60 (by kernel_rfl) ?_
 intro b1 w1 S1
 refine J.run 5 K64_1 [(1, pv b1)] w1 (by kernel_rfl) ?_
 refine J.callF 5 87 #[pv b1] hb87 (by kernel_rfl) (expo_any b1 _) ?_
 rintro _ w2 ⟨rfl, T1⟩
 have S2 : Sep w [box b1 (untC u) 60] w2 := S1.trans T1
 clear T1 S1
 refine J.run 22 K64_2 [(10, pv b1), (4, pv b1), (6, iv 0), (5, .agg #[pv b1, .pointer (some ⟨b1, 1, none⟩), .pointer (some ⟨b1, 2, none⟩), .pointer (some ⟨b1, 3, none⟩), .pointer (some ⟨b1, 4, none⟩)])] w2 (by kernel_rfl) ?_
 refine J.ok (OK.ldBox S2 0 11 3 0 (iv u.gM) (by kernel_rfl) rfl (by kernel_rfl)) ?_
 refine J.run 2 K64_3 [(13, .bool (decide (u.gM < (-9)))), (4, pv b1), (6, iv 0), (5, .agg #[pv b1, .pointer (some ⟨b1, 1, none⟩), .pointer (some ⟨b1, 2, none⟩), .pointer (some ⟨b1, 3, none⟩), .pointer (some ⟨b1, 4, none⟩)])] w2 (by kernel_rfl) ?_
 by_cases fk1 : u.gM < (-9)
 ·skip
  refine J.head (.bool true) (congrArg Value.bool (decide_eq_true fk1)) ?_
  refine J.run 11 K64_4 [(2, .bool false)] w2 (by kernel_rfl) ?_
  refine J.ret Tryz.f64 [.bool false] Tryz.func64 ⟨by kernel_rfl, trivial⟩ ?_
  refine hR _ _ ?_
  exact ⟨congrArg Value.bool (decide_eq_false (show ¬ (unP u.gM u.gKg u.gS u.gA u.gK) by omega)).symm, S2.nil⟩
 ·skip
  refine J.head (.bool false) (congrArg Value.bool (decide_eq_false fk1)) ?_
  refine J.run 2 K64_5 [(15, pv b1), (13, .bool false), (6, iv 0), (5, .agg #[pv b1, .pointer (some ⟨b1, 1, none⟩), .pointer (some ⟨b1, 2, none⟩), .pointer (some ⟨b1, 3, none⟩), .pointer (some ⟨b1, 4, none⟩)])] w2 (by kernel_rfl) ?_
  refine J.ok (OK.ldBox S2 0 16 3 0 (iv u.gM) (by kernel_rfl) rfl (by kernel_rfl)) ?_
  refine J.run 3 K64_6 [(18, .bool (decide (u.gM > 9))), (6, iv 0), (5, .agg #[pv b1, .pointer (some ⟨b1, 1, none⟩), .pointer (some ⟨b1, 2, none⟩), .pointer (some ⟨b1, 3, none⟩), .pointer (some ⟨b1, 4, none⟩)])] w2 (by kernel_rfl) ?_
  by_cases fk2 : u.gM > 9
  ·skip
   refine J.head (.bool true) (congrArg Value.bool (decide_eq_true fk2)) ?_
   refine J.run 5 K64_7 [(2, .bool false)] w2 (by kernel_rfl) ?_
   refine J.ret Tryz.f64 [.bool false] Tryz.func64 ⟨by kernel_rfl, trivial⟩ ?_
   refine hR _ _ ?_
   exact ⟨congrArg Value.bool (decide_eq_false (show ¬ (unP u.gM u.gKg u.gS u.gA u.gK) by omega)).symm, S2.nil⟩
  ·skip
   refine J.head (.bool false) (congrArg Value.bool (decide_eq_false fk2)) ?_
   refine J.run 8 K64_8 [(6, iv 1), (5, .agg #[pv b1, .pointer (some ⟨b1, 1, none⟩), .pointer (some ⟨b1, 2, none⟩), .pointer (some ⟨b1, 3, none⟩), .pointer (some ⟨b1, 4, none⟩)])] w2 (by kernel_rfl) ?_
   refine J.run 18 K64_9 [(10, .pointer (some ⟨b1, 1, none⟩)), (4, .pointer (some ⟨b1, 1, none⟩)), (6, iv 1), (5, .agg #[pv b1, .pointer (some ⟨b1, 1, none⟩), .pointer (some ⟨b1, 2, none⟩), .pointer (some ⟨b1, 3, none⟩), .pointer (some ⟨b1, 4, none⟩)])] w2 (by kernel_rfl) ?_
   refine J.ok (OK.ldBox S2 0 11 3 1 (iv u.gKg) (by kernel_rfl) rfl (by kernel_rfl)) ?_
   refine J.run 2 K64_10 [(13, .bool (decide (u.gKg < (-9)))), (4, .pointer (some ⟨b1, 1, none⟩)), (6, iv 1), (5, .agg #[pv b1, .pointer (some ⟨b1, 1, none⟩), .pointer (some ⟨b1, 2, none⟩), .pointer (some ⟨b1, 3, none⟩), .pointer (some ⟨b1, 4, none⟩)])] w2 (by kernel_rfl) ?_
   by_cases fk3 : u.gKg < (-9)
   ·skip
    refine J.head (.bool true) (congrArg Value.bool (decide_eq_true fk3)) ?_
    refine J.run 11 K64_11 [(2, .bool false)] w2 (by kernel_rfl) ?_
    refine J.ret Tryz.f64 [.bool false] Tryz.func64 ⟨by kernel_rfl, trivial⟩ ?_
    refine hR _ _ ?_
    exact ⟨congrArg Value.bool (decide_eq_false (show ¬ (unP u.gM u.gKg u.gS u.gA u.gK) by omega)).symm, S2.nil⟩
   ·skip
    refine J.head (.bool false) (congrArg Value.bool (decide_eq_false fk3)) ?_
    refine J.run 2 K64_12 [(15, .pointer (some ⟨b1, 1, none⟩)), (13, .bool false), (6, iv 1), (5, .agg #[pv b1, .pointer (some ⟨b1, 1, none⟩), .pointer (some ⟨b1, 2, none⟩), .pointer (some ⟨b1, 3, none⟩), .pointer (some ⟨b1, 4, none⟩)])] w2 (by kernel_rfl) ?_
    refine J.ok (OK.ldBox S2 0 16 3 1 (iv u.gKg) (by kernel_rfl) rfl (by kernel_rfl)) ?_
    refine J.run 3 K64_13 [(18, .bool (decide (u.gKg > 9))), (6, iv 1), (5, .agg #[pv b1, .pointer (some ⟨b1, 1, none⟩), .pointer (some ⟨b1, 2, none⟩), .pointer (some ⟨b1, 3, none⟩), .pointer (some ⟨b1, 4, none⟩)])] w2 (by kernel_rfl) ?_
    by_cases fk4 : u.gKg > 9
    ·skip
     refine J.head (.bool true) (congrArg Value.bool (decide_eq_true fk4)) ?_
     refine J.run 5 K64_14 [(2, .bool false)] w2 (by kernel_rfl) ?_
     refine J.ret Tryz.f64 [.bool false] Tryz.func64 ⟨by kernel_rfl, trivial⟩ ?_
     refine hR _ _ ?_
     exact ⟨congrArg Value.bool (decide_eq_false (show ¬ (unP u.gM u.gKg u.gS u.gA u.gK) by omega)).symm, S2.nil⟩
    ·skip
     refine J.head (.bool false) (congrArg Value.bool (decide_eq_false fk4)) ?_
     refine J.run 8 K64_15 [(6, iv 2), (5, .agg #[pv b1, .pointer (some ⟨b1, 1, none⟩), .pointer (some ⟨b1, 2, none⟩), .pointer (some ⟨b1, 3, none⟩), .pointer (some ⟨b1, 4, none⟩)])] w2 (by kernel_rfl) ?_
     refine J.run 18 K64_16 [(10, .pointer (some ⟨b1, 2, none⟩)), (4, .pointer (some ⟨b1, 2, none⟩)), (6, iv 2), (5, .agg #[pv b1, .pointer (some ⟨b1, 1, none⟩), .pointer (some ⟨b1, 2, none⟩), .pointer (some ⟨b1, 3, none⟩), .pointer (some ⟨b1, 4, none⟩)])] w2 (by kernel_rfl) ?_
     refine J.ok (OK.ldBox S2 0 11 3 2 (iv u.gS) (by kernel_rfl) rfl (by kernel_rfl)) ?_
     refine J.run 2 K64_17 [(13, .bool (decide (u.gS < (-9)))), (4, .pointer (some ⟨b1, 2, none⟩)), (6, iv 2), (5, .agg #[pv b1, .pointer (some ⟨b1, 1, none⟩), .pointer (some ⟨b1, 2, none⟩), .pointer (some ⟨b1, 3, none⟩), .pointer (some ⟨b1, 4, none⟩)])] w2 (by kernel_rfl) ?_
     by_cases fk5 : u.gS < (-9)
     ·skip
      refine J.head (.bool true) (congrArg Value.bool (decide_eq_true fk5)) ?_
      refine J.run 11 K64_18 [(2, .bool false)] w2 (by kernel_rfl) ?_
      refine J.ret Tryz.f64 [.bool false] Tryz.func64 ⟨by kernel_rfl, trivial⟩ ?_
      refine hR _ _ ?_
      exact ⟨congrArg Value.bool (decide_eq_false (show ¬ (unP u.gM u.gKg u.gS u.gA u.gK) by omega)).symm, S2.nil⟩
     ·skip
      refine J.head (.bool false) (congrArg Value.bool (decide_eq_false fk5)) ?_
      refine J.run 2 K64_19 [(15, .pointer (some ⟨b1, 2, none⟩)), (13, .bool false), (6, iv 2), (5, .agg #[pv b1, .pointer (some ⟨b1, 1, none⟩), .pointer (some ⟨b1, 2, none⟩), .pointer (some ⟨b1, 3, none⟩), .pointer (some ⟨b1, 4, none⟩)])] w2 (by kernel_rfl) ?_
      refine J.ok (OK.ldBox S2 0 16 3 2 (iv u.gS) (by kernel_rfl) rfl (by kernel_rfl)) ?_
      refine J.run 3 K64_20 [(18, .bool (decide (u.gS > 9))), (6, iv 2), (5, .agg #[pv b1, .pointer (some ⟨b1, 1, none⟩), .pointer (some ⟨b1, 2, none⟩), .pointer (some ⟨b1, 3, none⟩), .pointer (some ⟨b1, 4, none⟩)])] w2 (by kernel_rfl) ?_
      by_cases fk6 : u.gS > 9
      ·skip
       refine J.head (.bool true) (congrArg Value.bool (decide_eq_true fk6)) ?_
       refine J.run 5 K64_21 [(2, .bool false)] w2 (by kernel_rfl) ?_
       refine J.ret Tryz.f64 [.bool false] Tryz.func64 ⟨by kernel_rfl, trivial⟩ ?_
       refine hR _ _ ?_
       exact ⟨congrArg Value.bool (decide_eq_false (show ¬ (unP u.gM u.gKg u.gS u.gA u.gK) by omega)).symm, S2.nil⟩
      ·skip
       refine J.head (.bool false) (congrArg Value.bool (decide_eq_false fk6)) ?_
       refine J.run 8 K64_22 [(6, iv 3), (5, .agg #[pv b1, .pointer (some ⟨b1, 1, none⟩), .pointer (some ⟨b1, 2, none⟩), .pointer (some ⟨b1, 3, none⟩), .pointer (some ⟨b1, 4, none⟩)])] w2 (by kernel_rfl) ?_
       refine J.run 18 K64_23 [(10, .pointer (some ⟨b1, 3, none⟩)), (4, .pointer (some ⟨b1, 3, none⟩)), (6, iv 3), (5, .agg #[pv b1, .pointer (some ⟨b1, 1, none⟩), .pointer (some ⟨b1, 2, none⟩), .pointer (some ⟨b1, 3, none⟩), .pointer (some ⟨b1, 4, none⟩)])] w2 (by kernel_rfl) ?_
       refine J.ok (OK.ldBox S2 0 11 3 3 (iv u.gA) (by kernel_rfl) rfl (by kernel_rfl)) ?_
       refine J.run 2 K64_24 [(13, .bool (decide (u.gA < (-9)))), (4, .pointer (some ⟨b1, 3, none⟩)), (6, iv 3), (5, .agg #[pv b1, .pointer (some ⟨b1, 1, none⟩), .pointer (some ⟨b1, 2, none⟩), .pointer (some ⟨b1, 3, none⟩), .pointer (some ⟨b1, 4, none⟩)])] w2 (by kernel_rfl) ?_
       by_cases fk7 : u.gA < (-9)
       ·skip
        refine J.head (.bool true) (congrArg Value.bool (decide_eq_true fk7)) ?_
        refine J.run 11 K64_25 [(2, .bool false)] w2 (by kernel_rfl) ?_
        refine J.ret Tryz.f64 [.bool false] Tryz.func64 ⟨by kernel_rfl, trivial⟩ ?_
        refine hR _ _ ?_
        exact ⟨congrArg Value.bool (decide_eq_false (show ¬ (unP u.gM u.gKg u.gS u.gA u.gK) by omega)).symm, S2.nil⟩
       ·skip
        refine J.head (.bool false) (congrArg Value.bool (decide_eq_false fk7)) ?_
        refine J.run 2 K64_26 [(15, .pointer (some ⟨b1, 3, none⟩)), (13, .bool false), (6, iv 3), (5, .agg #[pv b1, .pointer (some ⟨b1, 1, none⟩), .pointer (some ⟨b1, 2, none⟩), .pointer (some ⟨b1, 3, none⟩), .pointer (some ⟨b1, 4, none⟩)])] w2 (by kernel_rfl) ?_
        refine J.ok (OK.ldBox S2 0 16 3 3 (iv u.gA) (by kernel_rfl) rfl (by kernel_rfl)) ?_
        refine J.run 3 K64_27 [(18, .bool (decide (u.gA > 9))), (6, iv 3), (5, .agg #[pv b1, .pointer (some ⟨b1, 1, none⟩), .pointer (some ⟨b1, 2, none⟩), .pointer (some ⟨b1, 3, none⟩), .pointer (some ⟨b1, 4, none⟩)])] w2 (by kernel_rfl) ?_
        by_cases fk8 : u.gA > 9
        ·skip
         refine J.head (.bool true) (congrArg Value.bool (decide_eq_true fk8)) ?_
         refine J.run 5 K64_28 [(2, .bool false)] w2 (by kernel_rfl) ?_
         refine J.ret Tryz.f64 [.bool false] Tryz.func64 ⟨by kernel_rfl, trivial⟩ ?_
         refine hR _ _ ?_
         exact ⟨congrArg Value.bool (decide_eq_false (show ¬ (unP u.gM u.gKg u.gS u.gA u.gK) by omega)).symm, S2.nil⟩
        ·skip
         refine J.head (.bool false) (congrArg Value.bool (decide_eq_false fk8)) ?_
         refine J.run 8 K64_29 [(6, iv 4), (5, .agg #[pv b1, .pointer (some ⟨b1, 1, none⟩), .pointer (some ⟨b1, 2, none⟩), .pointer (some ⟨b1, 3, none⟩), .pointer (some ⟨b1, 4, none⟩)])] w2 (by kernel_rfl) ?_
         refine J.run 18 K64_30 [(10, .pointer (some ⟨b1, 4, none⟩)), (4, .pointer (some ⟨b1, 4, none⟩)), (6, iv 4), (5, .agg #[pv b1, .pointer (some ⟨b1, 1, none⟩), .pointer (some ⟨b1, 2, none⟩), .pointer (some ⟨b1, 3, none⟩), .pointer (some ⟨b1, 4, none⟩)])] w2 (by kernel_rfl) ?_
         refine J.ok (OK.ldBox S2 0 11 3 4 (iv u.gK) (by kernel_rfl) rfl (by kernel_rfl)) ?_
         refine J.run 2 K64_31 [(13, .bool (decide (u.gK < (-9)))), (4, .pointer (some ⟨b1, 4, none⟩)), (6, iv 4), (5, .agg #[pv b1, .pointer (some ⟨b1, 1, none⟩), .pointer (some ⟨b1, 2, none⟩), .pointer (some ⟨b1, 3, none⟩), .pointer (some ⟨b1, 4, none⟩)])] w2 (by kernel_rfl) ?_
         by_cases fk9 : u.gK < (-9)
         ·skip
          refine J.head (.bool true) (congrArg Value.bool (decide_eq_true fk9)) ?_
          refine J.run 11 K64_32 [(2, .bool false)] w2 (by kernel_rfl) ?_
          refine J.ret Tryz.f64 [.bool false] Tryz.func64 ⟨by kernel_rfl, trivial⟩ ?_
          refine hR _ _ ?_
          exact ⟨congrArg Value.bool (decide_eq_false (show ¬ (unP u.gM u.gKg u.gS u.gA u.gK) by omega)).symm, S2.nil⟩
         ·skip
          refine J.head (.bool false) (congrArg Value.bool (decide_eq_false fk9)) ?_
          refine J.run 2 K64_33 [(15, .pointer (some ⟨b1, 4, none⟩)), (13, .bool false), (6, iv 4), (5, .agg #[pv b1, .pointer (some ⟨b1, 1, none⟩), .pointer (some ⟨b1, 2, none⟩), .pointer (some ⟨b1, 3, none⟩), .pointer (some ⟨b1, 4, none⟩)])] w2 (by kernel_rfl) ?_
          refine J.ok (OK.ldBox S2 0 16 3 4 (iv u.gK) (by kernel_rfl) rfl (by kernel_rfl)) ?_
          refine J.run 3 K64_34 [(18, .bool (decide (u.gK > 9))), (6, iv 4), (5, .agg #[pv b1, .pointer (some ⟨b1, 1, none⟩), .pointer (some ⟨b1, 2, none⟩), .pointer (some ⟨b1, 3, none⟩), .pointer (some ⟨b1, 4, none⟩)])] w2 (by kernel_rfl) ?_
          by_cases fk10 : u.gK > 9
          ·skip
           refine J.head (.bool true) (congrArg Value.bool (decide_eq_true fk10)) ?_
           refine J.run 5 K64_35 [(2, .bool false)] w2 (by kernel_rfl) ?_
           refine J.ret Tryz.f64 [.bool false] Tryz.func64 ⟨by kernel_rfl, trivial⟩ ?_
           refine hR _ _ ?_
           exact ⟨congrArg Value.bool (decide_eq_false (show ¬ (unP u.gM u.gKg u.gS u.gA u.gK) by omega)).symm, S2.nil⟩
          ·skip
           refine J.head (.bool false) (congrArg Value.bool (decide_eq_false fk10)) ?_
           refine J.run 8 K64_36 [(6, iv 5), (5, .agg #[pv b1, .pointer (some ⟨b1, 1, none⟩), .pointer (some ⟨b1, 2, none⟩), .pointer (some ⟨b1, 3, none⟩), .pointer (some ⟨b1, 4, none⟩)])] w2 (by kernel_rfl) ?_
           refine J.run 11 K64_37 [(2, .bool true)] w2 (by kernel_rfl) ?_
           refine J.ret Tryz.f64 [.bool true] Tryz.func64 ⟨by kernel_rfl, trivial⟩ ?_
           refine hR _ _ ?_
           exact ⟨congrArg Value.bool (decide_eq_true (show unP u.gM u.gKg u.gS u.gA u.gK by omega)).symm, S2.nil⟩

theorem hb104 : HasBody Tryz.prog 104 := fun _ _ => by kernel_rfl
noncomputable def K104_0 : List Item := adv 2 [] (bodyOf Tryz.f104)
noncomputable def K104_1 : List Item := adv 5 [] (popK K104_0)
noncomputable def K104_2 : List Item := adv 1 [] (popK K104_1)
noncomputable def K104_3 : List Item := adv 1 [] (popK K104_2)
noncomputable def K104_4 : List Item := adv 1 [] (popK K104_3)
noncomputable def K104_5 : List Item := adv 1 [] (popK K104_4)
noncomputable def K104_6 : List Item := adv 2 [] (popK (popK K104_5))
set_option maxRecDepth 20000 in
set_option maxHeartbeats 20000000 in
theorem list_any (u : Unt) (w : World) : Ret Tryz.prog 104 #[.agg (untA u)] w (fun v w' => ∃ b, v = .slice (some ⟨b, 0, none⟩) 5 5 ∧ Sep w [box b (untC u) 3] w') := by
 have S0 := Sep.refl w
 refine Ret.named fun R hR => ?_
 refine Ret.of_J (N := 14) [(0, .agg (untA u))] Tryz.func104 rfl rfl (Nat.le_of_ble_eq_true (by kernel_rfl)) (by kernel_rfl) ?_
 refine J.run 2 K104_0 [(0, .agg (untA u))] w (by kernel_rfl) ?_
 refine J.new S0 1 (untC u) 60 (by kernel_rfl) ?_
 intro b1 w1 S1
 refine J.run 5 K104_1 [(3, pv b1), (1, pv b1)] w1 (by kernel_rfl) ?_
 refine J.ok (OK.ldBox S1 0 4 3 0 (iv u.gM) (by kernel_rfl) rfl (by kernel_rfl)) ?_
 refine J.run 1 K104_2 [(5, .pointer (some ⟨b1, 1, none⟩)), (4, iv u.gM), (1, pv b1)] w1 (by kernel_rfl) ?_
 refine J.ok (OK.ldBox S1 0 6 3 1 (iv u.gKg) (by kernel_rfl) rfl (by kernel_rfl)) ?_
 refine J.run 1 K104_3 [(7, .pointer (some ⟨b1, 2, none⟩)), (6, iv u.gKg), (4, iv u.gM), (1, pv b1)] w1 (by kernel_rfl) ?_
 refine J.ok (OK.ldBox S1 0 8 3 2 (iv u.gS) (by kernel_rfl) rfl (by kernel_rfl)) ?_
 refine J.run 1 K104_4 [(9, .pointer (some ⟨b1, 3, none⟩)), (8, iv u.gS), (6, iv u.gKg), (4, iv u.gM), (1, pv b1)] w1 (by kernel_rfl) ?_
 refine J.ok (OK.ldBox S1 0 10 3 3 (iv u.gA) (by kernel_rfl) rfl (by kernel_rfl)) ?_
 refine J.run 1 K104_5 [(11, .pointer (some ⟨b1, 4, none⟩)), (10, iv u.gA), (8, iv u.gS), (6, iv u.gKg), (4, iv u.gM)] w1 (by kernel_rfl) ?_
 refine J.ok (OK.ldBox S1 0 12 3 4 (iv u.gK) (by kernel_rfl) rfl (by kernel_rfl)) ?_
 refine J.newSlice S1 13 5 (untC u) 3 (by kernel_rfl) ?_
 intro b2 w2 S2
 refine J.run 2 K104_6 [(2, .slice (some ⟨b2, 0, none⟩) 5 5)] w2 (by kernel_rfl) ?_
 refine J.ret Tryz.f104 [.slice (some ⟨b2, 0, none⟩) 5 5] Tryz.func104 ⟨by kernel_rfl, trivial⟩ ?_
 refine hR _ _ ?_
 exact ⟨_, rfl, S2.pick 0 rfl⟩

theorem hb103 : HasBody Tryz.prog 103 := fun _ _ => by kernel_rfl
noncomputable def K103_0 : List Item := adv 2 [] (bodyOf Tryz.f103)
noncomputable def K103_1 : List Item := adv 4 [] (popK K103_0)
noncomputable def K103_2 : List Item := adv 23 [true] (popK (popK K103_1))
noncomputable def K103_3 : List Item := adv 2 [] (popK (popK K103_2))
noncomputable def K103_4 : List Item := adv 12 [true] K103_3
noncomputable def K103_5 : List Item := adv 2 [] K103_3
noncomputable def K103_6 : List Item := adv 3 [] (popK (popK K103_5))
noncomputable def K103_7 : List Item := adv 5 [true] K103_6
noncomputable def K103_8 : List Item := adv 9 [false] K103_6
noncomputable def K103_9 : List Item := adv 14 [true] K103_8
noncomputable def K103_10 : List Item := adv 2 [] (popK (popK K103_9))
noncomputable def K103_11 : List Item := adv 12 [true] K103_10
noncomputable def K103_12 : List Item := adv 2 [] K103_10
noncomputable def K103_13 : List Item := adv 3 [] (popK (popK K103_12))
noncomputable def K103_14 : List Item := adv 5 [true] K103_13
noncomputable def K103_15 : List Item := adv 9 [false] K103_13
noncomputable def K103_16 : List Item := adv 14 [true] K103_15
noncomputable def K103_17 : List Item := adv 2 [] (popK (popK K103_16))
noncomputable def K103_18 : List Item := adv 12 [true] K103_17
noncomputable def K103_19 : List Item := adv 2 [] K103_17
noncomputable def K103_20 : List Item := adv 3 [] (popK (popK K103_19))
noncomputable def K103_21 : List Item := adv 5 [true] K103_20
noncomputable def K103_22 : List Item := adv 9 [false] K103_20
noncomputable def K103_23 : List Item := adv 14 [true] K103_22
noncomputable def K103_24 : List Item := adv 2 [] (popK (popK K103_23))
noncomputable def K103_25 : List Item := adv 12 [true] K103_24
noncomputable def K103_26 : List Item := adv 2 [] K103_24
noncomputable def K103_27 : List Item := adv 3 [] (popK (popK K103_26))
noncomputable def K103_28 : List Item := adv 5 [true] K103_27
noncomputable def K103_29 : List Item := adv 9 [false] K103_27
noncomputable def K103_30 : List Item := adv 14 [true] K103_29
noncomputable def K103_31 : List Item := adv 2 [] (popK (popK K103_30))
noncomputable def K103_32 : List Item := adv 12 [true] K103_31
noncomputable def K103_33 : List Item := adv 2 [] K103_31
noncomputable def K103_34 : List Item := adv 3 [] (popK (popK K103_33))
noncomputable def K103_35 : List Item := adv 5 [true] K103_34
noncomputable def K103_36 : List Item := adv 9 [false] K103_34
noncomputable def K103_37 : List Item := adv 12 [false] K103_36
set_option maxRecDepth 20000 in
set_option maxHeartbeats 20000000 in
theorem ruvalid_any (u : Unt) (w : World) : Ret Tryz.prog 103 #[.agg (untA u)] w (fun v w' => v = .bool (unB u) ∧ Sep w [] w') := by
 have S0 := Sep.refl w
 refine Ret.named fun R hR => ?_
 refine Ret.of_J (N := 23) [(0, .agg (untA u))] Tryz.func103 rfl rfl (Nat.le_of_ble_eq_true (by kernel_rfl)) (by kernel_rfl) ?_
 refine J.run 2 K103_0 [(0, .agg (untA u))] w (by kernel_rfl) ?_
 refine J.new S0 1 (untC u) 60 (by kernel_rfl) ?_
 intro b1 w1 S1
 refine J.run 4 K103_1 [(1, pv b1)] w1 (by kernel_rfl) ?_
 refine J.ok (OK.ldBox S1 0 5 60 0 (.agg (untA u)) (by kernel_rfl) rfl (by kernel_rfl)) ?_
 refine J.callF 6 104 #[.agg (untA u)] hb104 (by kernel_rfl) (list_any u _) ?_
 rintro _ w2 ⟨b2, rfl, T1⟩
 have S2 : Sep w [box b2 (untC u) 3, box b1 (untC u) 60] w2 := S1.trans T1
 clear T1 S1
 refine J.run 23 K103_2 [(12, iv 0), (11, .slice (some ⟨b2, 0, none⟩) 5 5), (4, iv 0), (3, .slice (some ⟨b2, 0, none⟩) 5 5)] w2 (by kernel_rfl) ?_
 refine J.ok (OK.index 13 26 1 (some ⟨b2, 0, none⟩) ⟨b2, 0, none⟩ 5 0 0 ⟨b2, 0, none⟩ (by kernel_rfl) (by kernel_rfl) rfl (by omega) (by omega) (by rfl)) ?_
 refine J.ok (OK.ldBox S2 0 14 3 0 (iv u.gM) (by kernel_rfl) rfl (by kernel_rfl)) ?_
 refine J.run 2 K103_3 [(16, .bool (decide (u.gM < (-9)))), (4, iv 0), (3, .slice (some ⟨b2, 0, none⟩) 5 5)] w2 (by kernel_rfl) ?_
 by_cases fk1 : u.gM < (-9)
 ·skip
  refine J.head (.bool true) (congrArg Value.bool (decide_eq_true fk1)) ?_
  refine J.run 12 K103_4 [(2, .bool false)] w2 (by kernel_rfl) ?_
  refine J.ret Tryz.f103 [.bool false] Tryz.func103 ⟨by kernel_rfl, trivial⟩ ?_
  refine hR _ _ ?_
  exact ⟨congrArg Value.bool (decide_eq_false (show ¬ (unP u.gM u.gKg u.gS u.gA u.gK) by omega)).symm, S2.nil⟩
 ·skip
  refine J.head (.bool false) (congrArg Value.bool (decide_eq_false fk1)) ?_
  refine J.run 2 K103_5 [(18, iv 0), (17, .slice (some ⟨b2, 0, none⟩) 5 5), (16, .bool false), (4, iv 0), (3, .slice (some ⟨b2, 0, none⟩) 5 5)] w2 (by kernel_rfl) ?_
  refine J.ok (OK.index 19 26 1 (some ⟨b2, 0, none⟩) ⟨b2, 0, none⟩ 5 0 0 ⟨b2, 0, none⟩ (by kernel_rfl) (by kernel_rfl) rfl (by omega) (by omega) (by rfl)) ?_
  refine J.ok (OK.ldBox S2 0 20 3 0 (iv u.gM) (by kernel_rfl) rfl (by kernel_rfl)) ?_
  refine J.run 3 K103_6 [(22, .bool (decide (u.gM > 9))), (4, iv 0), (3, .slice (some ⟨b2, 0, none⟩) 5 5)] w2 (by kernel_rfl) ?_
  by_cases fk2 : u.gM > 9
  ·skip
   refine J.head (.bool true) (congrArg Value.bool (decide_eq_true fk2)) ?_
   refine J.run 5 K103_7 [(2, .bool false)] w2 (by kernel_rfl) ?_
   refine J.ret Tryz.f103 [.bool false] Tryz.func103 ⟨by kernel_rfl, trivial⟩ ?_
   refine hR _ _ ?_
   exact ⟨congrArg Value.bool (decide_eq_false (show ¬ (unP u.gM u.gKg u.gS u.gA u.gK) by omega)).symm, S2.nil⟩
  ·skip
   refine J.head (.bool false) (congrArg Value.bool (decide_eq_false fk2)) ?_
   refine J.run 9 K103_8 [(4, iv 1), (3, .slice (some ⟨b2, 0, none⟩) 5 5)] w2 (by kernel_rfl) ?_
   refine J.run 14 K103_9 [(12, iv 1), (11, .slice (some ⟨b2, 0, none⟩) 5 5), (4, iv 1), (3, .slice (some ⟨b2, 0, none⟩) 5 5)] w2 (by kernel_rfl) ?_
   refine J.ok (OK.index 13 26 1 (some ⟨b2, 0, none⟩) ⟨b2, 0, none⟩ 5 1 1 ⟨b2, 1, none⟩ (by kernel_rfl) (by kernel_rfl) rfl (by omega) (by omega) (by rfl)) ?_
   refine J.ok (OK.ldBox S2 0 14 3 1 (iv u.gKg) (by kernel_rfl) rfl (by kernel_rfl)) ?_
   refine J.run 2 K103_10 [(16, .bool (decide (u.gKg < (-9)))), (4, iv 1), (3, .slice (some ⟨b2, 0, none⟩) 5 5)] w2 (by kernel_rfl) ?_
   by_cases fk3 : u.gKg < (-9)
   ·skip
    refine J.head (.bool true) (congrArg Value.bool (decide_eq_true fk3)) ?_
    refine J.run 12 K103_11 [(2, .bool false)] w2 (by kernel_rfl) ?_
    refine J.ret Tryz.f103 [.bool false] Tryz.func103 ⟨by kernel_rfl, trivial⟩ ?_
    refine hR _ _ ?_
    exact ⟨congrArg Value.bool (decide_eq_false (show ¬ (unP u.gM u.gKg u.gS u.gA u.gK) by omega)).symm, S2.nil⟩
   ·skip
    refine J.head (.bool false) (congrArg Value.bool (decide_eq_false fk3)) ?_
    refine J.run 2 K103_12 [(18, iv 1), (17, .slice (some ⟨b2, 0, none⟩) 5 5), (16, .bool false), (4, iv 1), (3, .slice (some ⟨b2, 0, none⟩) 5 5)] w2 (by kernel_rfl) ?_
    refine J.ok (OK.index 19 26 1 (some ⟨b2, 0, none⟩) ⟨b2, 0, none⟩ 5 1 1 ⟨b2, 1, none⟩ (by kernel_rfl) (by kernel_rfl) rfl (by omega) (by omega) (by rfl)) ?_
    refine J.ok (OK.ldBox S2 0 20 3 1 (iv u.gKg) (by kernel_rfl) rfl (by kernel_rfl)) ?_
    refine J.run 3 K103_13 [(22, .bool (decide (u.gKg > 9))), (4, iv 1), (3, .slice (some ⟨b2, 0, none⟩) 5 5)] w2 (by kernel_rfl) ?_
    by_cases fk4 : u.gKg > 9
    ·skip
     refine J.head (.bool true) (congrArg Value.bool (decide_eq_true fk4)) ?_
     refine J.run 5 K103_14 [(2, .bool false)] w2 (by kernel_rfl) ?_
     refine J.ret Tryz.f103 [.bool false] Tryz.func103 ⟨by kernel_rfl, trivial⟩ ?_
     refine hR _ _ ?_
     exact ⟨congrArg Value.bool (decide_eq_false (show ¬ (unP u.gM u.gKg u.gS u.gA u.gK) by omega)).symm, S2.nil⟩
    ·skip
     refine J.head (.bool false) (congrArg Value.bool (decide_eq_false fk4)) ?_
     refine J.run 9 K103_15 [(4, iv 2), (3, .slice (some ⟨b2, 0, none⟩) 5 5)] w2 (by kernel_rfl) ?_
     refine J.run 14 K103_16 [(12, iv 2), (11, .slice (some ⟨b2, 0, none⟩) 5 5), (4, iv 2), (3, .slice (some ⟨b2, 0, none⟩) 5 5)] w2 (by kernel_rfl) ?_
     refine J.ok (OK.index 13 26 1 (some ⟨b2, 0, none⟩) ⟨b2, 0, none⟩ 5 2 2 ⟨b2, 2, none⟩ (by kernel_rfl) (by kernel_rfl) rfl (by omega) (by omega) (by rfl)) ?_
     refine J.ok (OK.ldBox S2 0 14 3 2 (iv u.gS) (by kernel_rfl) rfl (by kernel_rfl)) ?_
     refine J.run 2 K103_17 [(16, .bool (decide (u.gS < (-9)))), (4, iv 2), (3, .slice (some ⟨b2, 0, none⟩) 5 5)] w2 (by kernel_rfl) ?_
     by_cases fk5 : u.gS < (-9)
     ·skip
      refine J.head (.bool true) (congrArg Value.bool (decide_eq_true fk5)) ?_
      refine J.run 12 K103_18 [(2, .bool false)] w2 (by kernel_rfl) ?_
      refine J.ret Tryz.f103 [.bool false] Tryz.func103 ⟨by kernel_rfl, trivial⟩ ?_
      refine hR _ _ ?_
      exact ⟨congrArg Value.bool (decide_eq_false (show ¬ (unP u.gM u.gKg u.gS u.gA u.gK) by omega)).symm, S2.nil⟩
     ·skip
      refine J.head (.bool false) (congrArg Value.bool (decide_eq_false fk5)) ?_
      refine J.run 2 K103_19 [(18, iv 2), (17, .slice (some ⟨b2, 0, none⟩) 5 5), (16, .bool false), (4, iv 2), (3, .slice (some ⟨b2, 0, none⟩) 5 5)] w2 (by kernel_rfl) ?_
      refine J.ok (OK.index 19 26 1 (some ⟨b2, 0, none⟩) ⟨b2, 0, none⟩ 5 2 2 ⟨b2, 2, none⟩ (by kernel_rfl) (by kernel_rfl) rfl (by omega) (by omega) (by rfl)) ?_
      refine J.ok (OK.ldBox S2 0 20 3 2 (iv u.gS) (by kernel_rfl) rfl (by kernel_rfl)) ?_
      refine J.run 3 K103_20 [(22, .bool (decide (u.gS > 9))), (4, iv 2), (3, .slice (some ⟨b2, 0, none⟩) 5 5)] w2 (by kernel_rfl) ?_
      by_cases fk6 : u.gS > 9
      ·skip
       refine J.head (.bool true) (congrArg Value.bool (decide_eq_true fk6)) ?_
       refine J.run 5 K103_21 [(2, .bool false)] w2 (by kernel_rfl) ?_
       refine J.ret Tryz.f103 [.bool false] Tryz.func103 ⟨by kernel_rfl, trivial⟩ ?_
       refine hR _ _ ?_
       exact ⟨congrArg Value.bool (decide_eq_false (show ¬ (unP u.gM u.gKg u.gS u.gA u.gK) by omega)).symm, S2.nil⟩
      ·skip
       refine J.head (.bool false) (congrArg Value.bool (decide_eq_false fk6)) ?_
       refine J.run 9 K103_22 [(4, iv 3), (3, .slice (some ⟨b2, 0, none⟩) 5 5)] w2 (by kernel_rfl) ?_
       refine J.run 14 K103_23 [(12, iv 3), (11, .slice (some ⟨b2, 0, none⟩) 5 5), (4, iv 3), (3, .slice (some ⟨b2, 0, none⟩) 5 5)] w2 (by kernel_rfl) ?_
       refine J.ok (OK.index 13 26 1 (some ⟨b2, 0, none⟩) ⟨b2, 0, none⟩ 5 3 3 ⟨b2, 3, none⟩ (by kernel_rfl) (by kernel_rfl) rfl (by omega) (by omega) (by rfl)) ?_
       refine J.ok (OK.ldBox S2 0 14 3 3 (iv u.gA) (by kernel_rfl) rfl (by kernel_rfl)) ?_
       refine J.run 2 K103_24 [(16, .bool (decide (u.gA < (-9)))), (4, iv 3), (3, .slice (some ⟨b2, 0, none⟩) 5 5)] w2 (by kernel_rfl) ?_
       by_cases fk7 : u.gA < (-9)
       ·skip
        refine J.head (.bool true) (congrArg Value.bool (decide_eq_true fk7)) ?_
        refine J.run 12 K103_25 [(2, .bool false)] w2 (by kernel_rfl) ?_
        refine J.ret Tryz.f103 [.bool false] Tryz.func103 ⟨by kernel_rfl, trivial⟩ ?_
        refine hR _ _ ?_
        exact ⟨congrArg Value.bool (decide_eq_false (show ¬ (unP u.gM u.gKg u.gS u.gA u.gK) by omega)).symm, S2.nil⟩
       ·skip
        refine J.head (.bool false) (congrArg Value.bool (decide_eq_false fk7)) ?_
        refine J.run 2 K103_26 [(18, iv 3), (17, .slice (some ⟨b2, 0, none⟩) 5 5), (16, .bool false), (4, iv 3), (3, .slice (some ⟨b2, 0, none⟩) 5 5)] w2 (by kernel_rfl) ?_
        refine J.ok (OK.index 19 26 1 (some ⟨b2, 0, none⟩) ⟨b2, 0, none⟩ 5 3 3 ⟨b2, 3, none⟩ (by kernel_rfl) (by kernel_rfl) rfl (by omega) (by omega) (by rfl)) ?_
        refine J.ok (OK.ldBox S2 0 20 3 3 (iv u.gA) (by kernel_rfl) rfl (by kernel_rfl)) ?_
        refine J.run 3 K103_27 [(22, .bool (decide (u.gA > 9))), (4, iv 3), (3, .slice (some ⟨b2, 0, none⟩) 5 5)] w2 (by kernel_rfl) ?_
        by_cases fk8 : u.gA > 9
        ·skip
         refine J.head (.bool true) (congrArg Value.bool (decide_eq_true fk8)) ?_
         refine J.run 5 K103_28 [(2, .bool false)] w2 (by kernel_rfl) ?_
         refine J.ret Tryz.f103 [.bool false] Tryz.func103 ⟨by kernel_rfl, trivial⟩ ?_
         refine hR _ _ ?_
         exact ⟨congrArg Value.bool (decide_eq_false (show ¬ (unP u.gM u.gKg u.gS u.gA u.gK) by omega)).symm, S2.nil⟩
        ·skip
         refine J.head (.bool false) (congrArg Value.bool (decide_eq_false fk8)) ?_
         refine J.run 9 K103_29 [(4, iv 4), (3, .slice (some ⟨b2, 0, none⟩) 5 5)] w2 (by kernel_rfl) ?_
         refine J.run 14 K103_30 [(12, iv 4), (11, .slice (some ⟨b2, 0, none⟩) 5 5), (4, iv 4), (3, .slice (some ⟨b2, 0, none⟩) 5 5)] w2 (by kernel_rfl) ?_
         refine J.ok (OK.index 13 26 1 (some ⟨b2, 0, none⟩) ⟨b2, 0, none⟩ 5 4 4 ⟨b2, 4, none⟩ (by kernel_rfl) (by kernel_rfl) rfl (by omega) (by omega) (by rfl)) ?_
         refine J.ok (OK.ldBox S2 0 14 3 4 (iv u.gK) (by kernel_rfl) rfl (by kernel_rfl)) ?_
         refine J.run 2 K103_31 [(16, .bool (decide (u.gK < (-9)))), (4, iv 4), (3, .slice (some ⟨b2, 0, none⟩) 5 5)] w2 (by kernel_rfl) ?_
         by_cases fk9 : u.gK < (-9)
         ·skip
          refine J.head (.bool true) (congrArg Value.bool (decide_eq_true fk9)) ?_
          refine J.run 12 K103_32 [(2, .bool false)] w2 (by kernel_rfl) ?_
          refine J.ret Tryz.f103 [.bool false] Tryz.func103 ⟨by kernel_rfl, trivial⟩ ?_
          refine hR _ _ ?_
          exact ⟨congrArg Value.bool (decide_eq_false (show ¬ (unP u.gM u.gKg u.gS u.gA u.gK) by omega)).symm, S2.nil⟩
         ·skip
          refine J.head (.bool false) (congrArg Value.bool (decide_eq_false fk9)) ?_
          refine J.run 2 K103_33 [(18, iv 4), (17, .slice (some ⟨b2, 0, none⟩) 5 5), (16, .bool false), (4, iv 4), (3, .slice (some ⟨b2, 0, none⟩) 5 5)] w2 (by kernel_rfl) ?_
          refine J.ok (OK.index 19 26 1 (some ⟨b2, 0, none⟩) ⟨b2, 0, none⟩ 5 4 4 ⟨b2, 4, none⟩ (by kernel_rfl) (by kernel_rfl) rfl (by omega) (by omega) (by rfl)) ?_
          refine J.ok (OK.ldBox S2 0 20 3 4 (iv u.gK) (by kernel_rfl) rfl (by kernel_rfl)) ?_
          refine J.run 3 K103_34 [(22, .bool (decide (u.gK > 9))), (4, iv 4), (3, .slice (some ⟨b2, 0, none⟩) 5 5)] w2 (by kernel_rfl) ?_
          by_cases fk10 : u.gK > 9
          ·skip
           refine J.head (.bool true) (congrArg Value.bool (decide_eq_true fk10)) ?_
           refine J.run 5 K103_35 [(2, .bool false)] w2 (by kernel_rfl) ?_
           refine J.ret Tryz.f103 [.bool false] Tryz.func103 ⟨by kernel_rfl, trivial⟩ ?_
           refine hR _ _ ?_
           exact ⟨congrArg Value.bool (decide_eq_false (show ¬ (unP u.gM u.gKg u.gS u.gA u.gK) by omega)).symm, S2.nil⟩
          ·skip
           refine J.head (.bool false) (congrArg Value.bool (decide_eq_false fk10)) ?_
           refine J.run 9 K103_36 [(4, iv 5), (3, .slice (some ⟨b2, 0, none⟩) 5 5)] w2 (by kernel_rfl) ?_
           refine J.run 12 K103_37 [(2, .bool true)] w2 (by kernel_rfl) ?_
           refine J.ret Tryz.f103 [.bool true] Tryz.func103 ⟨by kernel_rfl, trivial⟩ ?_
           refine hR _ _ ?_
           exact ⟨congrArg Value.bool (decide_eq_true (show unP u.gM u.gKg u.gS u.gA u.gK by omega)).symm, S2.nil⟩

theorem hb105 : HasBody Tryz.prog 105 := fun _ _ => by kernel_rfl
noncomputable def K105_0 : List Item := adv 2 [] (bodyOf Tryz.f105)
noncomputable def K105_1 : List Item := adv 2 [] (popK K105_0)
set_option maxRecDepth 20000 in
set_option maxHeartbeats 20000000 in
theorem of_any (la : Option Addr) (len cap : Nat) (l : List Int) (w : World) (hI : Ints w la len l) (hlen : len = 5) : Ret Tryz.prog 105 #[.slice la len cap] w (fun v w' => v = .agg #[iv (l.getD 0 0), iv (l.getD 1 0), iv (l.getD 2 0), iv (l.getD 3 0), iv (l.getD 4 0)] ∧ Sep w [] w') := by
 have S0 := Sep.refl w
 refine Ret.named fun R hR => ?_
 refine Ret.of_J (N := 19) [(0, .slice la len cap)] Tryz.func105 rfl rfl (Nat.le_of_ble_eq_true (by kernel_rfl)) (by kernel_rfl) ?_
 have hll := hI.len_eq
 refine J.run 2 K105_0 [(0, .slice la len cap)] w (by kernel_rfl) ?_
 refine J.new S0 2 kvV3_1 60 (by kernel_rfl) ?_
 intro b1 w1 S1
 refine J.run 2 K105_1 [(2, pv b1), (0, .slice la len cap)] w1 (by kernel_rfl) ?_
 obtain ⟨p1, hp1, hc1⟩ := hI.at 0 0 (by omega)
 obtain ⟨p2, hp2, hc2⟩ := hI.at 0 1 (by omega)
 obtain ⟨p3, hp3, hc3⟩ := hI.at 0 2 (by omega)
 obtain ⟨p4, hp4, hc4⟩ := hI.at 0 3 (by omega)
 obtain ⟨p5, hp5, hc5⟩ := hI.at 0 4 (by omega)
 refine J.drawTail S1 16 Tryz.mixed (by kernel_rfl) (by kernel_rfl) ?_
 intro w2 S2
 refine SL.ok (by decide) (OK.run 3 (.slice la len cap) (by kernel_rfl)) ?_
 refine SL.ok (by decide) (OK.index 4 26 1 la p1 len 0 0 (p1.add 0) (by kernel_rfl) (by kernel_rfl) hp1 (by omega) (by omega) (by rw [Nat.mul_one])) ?_
 refine SL.ok (by decide) (OK.ldCell 5 3 (p1.add 0) (iv (l.getD 0 0)) (by kernel_rfl) (by kernel_rfl) (S2.cell hc1)) ?_
 refine SL.ok (by decide) (OK.run 6 (.slice la len cap) (by kernel_rfl)) ?_
 refine SL.ok (by decide) (OK.index 7 26 1 la p2 len 1 1 (p2.add 1) (by kernel_rfl) (by kernel_rfl) hp2 (by omega) (by omega) (by rw [Nat.mul_one])) ?_
 refine SL.ok (by decide) (OK.ldCell 8 3 (p2.add 1) (iv (l.getD 1 0)) (by kernel_rfl) (by kernel_rfl) (S2.cell hc2)) ?_
 refine SL.ok (by decide) (OK.run 9 (.slice la len cap) (by kernel_rfl)) ?_
 refine SL.ok (by decide) (OK.index 10 26 1 la p3 len 2 2 (p3.add 2) (by kernel_rfl) (by kernel_rfl) hp3 (by omega) (by omega) (by rw [Nat.mul_one])) ?_
 refine SL.ok (by decide) (OK.ldCell 11 3 (p3.add 2) (iv (l.getD 2 0)) (by kernel_rfl) (by kernel_rfl) (S2.cell hc3)) ?_
 refine SL.ok (by decide) (OK.run 12 (.slice la len cap) (by kernel_rfl)) ?_
 refine SL.ok (by decide) (OK.index 13 26 1 la p4 len 3 3 (p4.add 3) (by kernel_rfl) (by kernel_rfl) hp4 (by omega) (by omega) (by rw [Nat.mul_one])) ?_
 refine SL.ok (by decide) (OK.ldCell 14 3 (p4.add 3) (iv (l.getD 3 0)) (by kernel_rfl) (by kernel_rfl) (S2.cell hc4)) ?_
 refine SL.ok (by decide) (OK.run 15 (.slice la len cap) (by kernel_rfl)) ?_
 refine SL.ok (by decide) (OK.index 16 26 1 la p5 len 4 4 (p5.add 4) (by kernel_rfl) (by kernel_rfl) hp5 (by omega) (by omega) (by rw [Nat.mul_one])) ?_
 refine SL.ok (by decide) (OK.ldCell 17 3 (p5.add 4) (iv (l.getD 4 0)) (by kernel_rfl) (by kernel_rfl) (S2.cell hc5)) ?_
 refine SL.ok (by decide) (OK.run 18 (.agg #[iv (l.getD 0 0), iv (l.getD 1 0), iv (l.getD 2 0), iv (l.getD 3 0), iv (l.getD 4 0)]) (by kernel_rfl)) ?_
 refine SL.done ?_
 refine TL.stBox S2 0 60 0 (.agg #[iv (l.getD 0 0), iv (l.getD 1 0), iv (l.getD 2 0), iv (l.getD 3 0), iv (l.getD 4 0)]) [iv (l.getD 0 0), iv (l.getD 1 0), iv (l.getD 2 0), iv (l.getD 3 0), iv (l.getD 4 0)] [box b1 [iv (l.getD 0 0), iv (l.getD 1 0), iv (l.getD 2 0), iv (l.getD 3 0), iv (l.getD 4 0)] 60] (by kernel_rfl) rfl (by kernel_rfl) (by kernel_rfl) rfl ?_
 intro w3 S3
 refine TL.done (by kernel_rfl) ?_
 refine J.run 0 (rRest K105_1) [(2, pv b1)] w3 (by kernel_rfl) ?_
 refine J.ret Tryz.f105 [.agg #[iv (l.getD 0 0), iv (l.getD 1 0), iv (l.getD 2 0), iv (l.getD 3 0), iv (l.getD 4 0)]] Tryz.func105 ⟨⟨⟨b1, 0, none⟩, by kernel_rfl, ldV_run (S3.nth 0 rfl) (by kernel_rfl)⟩, trivial⟩ ?_
 refine hR _ _ ?_
 exact ⟨rfl, S3.nil⟩

theorem hb106 : HasBody Tryz.prog 106 := fun _ _ => by kernel_rfl
noncomputable def K106_0 : List Item := adv 2 [] (bodyOf Tryz.f106)
noncomputable def K106_1 : List Item := adv 5 [] (popK (popK (popK K106_0)))
noncomputable def K106_2 : List Item := adv 2 [] (popK (popK K106_1))
noncomputable def K106_3 : List Item := adv 3 [] (popK (popK K106_2))
noncomputable def K106_4 : List Item := adv 4 [false] K106_3
noncomputable def K106_5 : List Item := adv 22 [true] (popK (popK (popK (popK (popK (popK K106_4))))))
noncomputable def K106_6 : List Item := adv 6 [] (rRest K106_5)
noncomputable def K106_7 : List Item := adv 14 [true] K106_6
noncomputable def K106_8 : List Item := adv 6 [] (rRest K106_7)
noncomputable def K106_9 : List Item := adv 14 [true] K106_8
noncomputable def K106_10 : List Item := adv 6 [] (rRest K106_9)
noncomputable def K106_11 : List Item := adv 14 [true] K106_10
noncomputable def K106_12 : List Item := adv 6 [] (rRest K106_11)
noncomputable def K106_13 : List Item := adv 14 [true] K106_12
noncomputable def K106_14 : List Item := adv 6 [] (rRest K106_13)
noncomputable def K106_15 : List Item := adv 10 [false] K106_14
noncomputable def K106_16 : List Item := adv 2 [] (popK (popK K106_15))
noncomputable def K106_17 : List Item := adv 4 [false] K106_16
noncomputable def K106_18 : List Item := adv 2 [] (popK (popK K106_17))
noncomputable def K106_19 : List Item := adv 4 [true] K106_16
noncomputable def K106_20 : List Item := adv 2 [] (popK K106_19)
noncomputable def K106_21 : List Item := adv 4 [true] K106_3
noncomputable def K106_22 : List Item := adv 2 [] (popK K106_21)
noncomputable def K106_23 : List Item := adv 9 [true] K106_2
noncomputable def K106_24 : List Item := adv 2 [] (popK K106_23)
set_option maxRecDepth 20000 in
set_option maxHeartbeats 20000000 in
theorem ucomb_any (a b : Unt) (w : World) : Ret Tryz.prog 106 #[.agg (untA a), .agg (untA b), iv 1] w (fun v w' => v = .tuple #[.agg #[iv (unX a b 1).gM, iv (unX a b 1).gKg, iv (unX a b 1).gS, iv (unX a b 1).gA, iv (unX a b 1).gK], iv (unE a b 1)] ∧ Sep w [] w') := by
 have S0 := Sep.refl w
 refine Ret.named fun R hR => ?_
 refine Ret.of_J (N := 45) [(0, .agg (untA a)), (1, .agg (untA b)), (2, iv 1)] Tryz.func106 rfl rfl (Nat.le_of_ble_eq_true (by kernel_rfl)) (by kernel_rfl) ?_
 refine J.run 2 K106_0 [(0, .agg (untA a)), (1, .agg (untA b)), (2, iv 1)] w (by kernel_rfl) ?_
 refine J.new S0 3 (untC a) 60 (by kernel_rfl) ?_
 intro b1 w1 S1
 refine J.new S1 4 (untC b) 60 (by kernel_rfl) ?_
 intro b2 w2 S2
 refine J.new S2 6 kvV3_1 60 (by kernel_rfl) ?_
 intro b3 w3 S3
 refine J.run 5 K106_1 [(6, pv b3), (4, pv b2), (3, pv b1), (2, iv 1)] w3 (by kernel_rfl) ?_
 refine J.ok (OK.ldBox S3 2 11 60 0 (.agg (untA a)) (by kernel_rfl) rfl (by kernel_rfl)) ?_
 refine J.callF 12 64 #[.agg (untA a)] hb64 (by kernel_rfl) (uvalid_any a _) ?_
 rintro _ w4 ⟨rfl, T1⟩
 have S4 : Sep w [box b3 kvV3_1 60, box b2 (untC b) 60, box b1 (untC a) 60] w4 := S3.trans T1
 clear T1 S3
 refine J.run 2 K106_2 [(14, .bool (!(unB a))), (6, pv b3), (4, pv b2), (3, pv b1), (2, iv 1)] w4 (by kernel_rfl) ?_
 rcases Bool.eq_false_or_eq_true (unB a) with fk1 | fk1
 ·skip
  refine J.head (.bool false) (congrArg Value.bool (by rw [fk1]; rfl)) ?_
  have fb1 := unB_iff.1 fk1
  try dsimp only at fb1
  refine J.ok (OK.ldBox S4 1 15 60 0 (.agg (untA b)) (by kernel_rfl) rfl (by kernel_rfl)) ?_
  refine J.callF 16 64 #[.agg (untA b)] hb64 (by kernel_rfl) (uvalid_any b _) ?_
  rintro _ w5 ⟨rfl, T2⟩
  have S5 : Sep w [box b3 kvV3_1 60, box b2 (untC b) 60, box b1 (untC a) 60] w5 := S4.trans T2
  clear T2 S4
  refine J.run 3 K106_3 [(18, .bool (!(unB b))), (6, pv b3), (4, pv b2), (3, pv b1), (2, iv 1)] w5 (by kernel_rfl) ?_
  rcases Bool.eq_false_or_eq_true (unB b) with fk2 | fk2
  ·skip
   refine J.head (.bool false) (congrArg Value.bool (by rw [fk2]; rfl)) ?_
   have fb2 := unB_iff.1 fk2
   try dsimp only at fb2
   refine J.run 4 K106_4 [(6, pv b3), (4, pv b2), (3, pv b1), (2, iv 1)] w5 (by kernel_rfl) ?_
   refine J.callF 20 87 #[pv b1] hb87 (by kernel_rfl) (expo_any b1 _) ?_
   rintro _ w6 ⟨rfl, T3⟩
   have S6 : Sep w [box b3 kvV3_1 60, box b2 (untC b) 60, box b1 (untC a) 60] w6 := S5.trans T3
   clear T3 S5
   refine J.callF 21 87 #[pv b2] hb87 (by kernel_rfl) (expo_any b2 _) ?_
   rintro _ w7 ⟨rfl, T4⟩
   have S7 : Sep w [box b3 kvV3_1 60, box b2 (untC b) 60, box b1 (untC a) 60] w7 := S6.trans T4
   clear T4 S6
   refine J.new S7 8 [.pointer none, .pointer none, .pointer none, .pointer none, .pointer none] 114 (by kernel_rfl) ?_
   intro b4 w8 S8
   refine J.new S8 9 [.pointer none, .pointer none, .pointer none, .pointer none, .pointer none] 114 (by kernel_rfl) ?_
   intro b5 w9 S9
   refine J.stBox S9 1 114 0 (.agg #[pv b1, .pointer (some ⟨b1, 1, none⟩), .pointer (some ⟨b1, 2, none⟩), .pointer (some ⟨b1, 3, none⟩), .pointer (some ⟨b1, 4, none⟩)]) [pv b1, .pointer (some ⟨b1, 1, none⟩), .pointer (some ⟨b1, 2, none⟩), .pointer (some ⟨b1, 3, none⟩), .pointer (some ⟨b1, 4, none⟩)] [box b5 [.pointer none, .pointer none, .pointer none, .pointer none, .pointer none] 114, box b4 [pv b1, .pointer (some ⟨b1, 1, none⟩), .pointer (some ⟨b1, 2, none⟩), .pointer (some ⟨b1, 3, none⟩), .pointer (some ⟨b1, 4, none⟩)] 114, box b3 kvV3_1 60, box b2 (untC b) 60, box b1 (untC a) 60] (by kernel_rfl) rfl (by kernel_rfl) (by kernel_rfl) rfl ?_
   intro w10 S10
   refine J.stBox S10 0 114 0 (.agg #[pv b2, .pointer (some ⟨b2, 1, none⟩), .pointer (some ⟨b2, 2, none⟩), .pointer (some ⟨b2, 3, none⟩), .pointer (some ⟨b2, 4, none⟩)]) [pv b2, .pointer (some ⟨b2, 1, none⟩), .pointer (some ⟨b2, 2, none⟩), .pointer (some ⟨b2, 3, none⟩), .pointer (some ⟨b2, 4, none⟩)] [box b5 [pv b2, .pointer (some ⟨b2, 1, none⟩), .pointer (some ⟨b2, 2, none⟩), .pointer (some ⟨b2, 3, none⟩), .pointer (some ⟨b2, 4, none⟩)] 114, box b4 [pv b1, .pointer (some ⟨b1, 1, none⟩), .pointer (some ⟨b1, 2, none⟩), .pointer (some ⟨b1, 3, none⟩), .pointer (some ⟨b1, 4, none⟩)] 114, box b3 kvV3_1 60, box b2 (untC b) 60, box b1 (untC a) 60] (by kernel_rfl) rfl (by kernel_rfl) (by kernel_rfl) rfl ?_
   intro w11 S11
   refine J.run 22 K106_5 [(10, iv 0), (22, iv 0), (9, pv b5), (8, pv b4), (6, pv b3), (3, pv b1), (2, iv 1)] w11 (by kernel_rfl) ?_
   refine J.drawTail S11 14 Tryz.mixed (by kernel_rfl) (by kernel_rfl) ?_
   intro w12 S12
   refine SL.ok (by decide) (OK.run 25 (iv 0) (by kernel_rfl)) ?_
   refine SL.ok (by decide) (OK.indexP 26 114 5 1 b4 0 0 0 (by kernel_rfl) (by kernel_rfl) (by omega) (by omega)) ?_
   refine SL.head (pv b4) (by first | rfl | (rw [Nat.zero_add, Nat.mul_one])) ?_
   refine SL.ok (by decide) (OK.ldBox S12 1 27 113 0 (pv b1) (by kernel_rfl) rfl (by kernel_rfl)) ?_
   refine SL.ok (by decide) (OK.run 28 (pv b1) (by kernel_rfl)) ?_
   refine SL.ok (by decide) (OK.ldBox S12 4 29 3 0 (iv a.gM) (by kernel_rfl) rfl (by kernel_rfl)) ?_
   refine SL.ok (by decide) (OK.run 30 (iv 1) (by kernel_rfl)) ?_
   refine SL.ok (by decide) (OK.run 31 (iv 0) (by kernel_rfl)) ?_
   refine SL.ok (by decide) (OK.indexP 32 114 5 1 b5 0 0 0 (by kernel_rfl) (by kernel_rfl) (by omega) (by omega)) ?_
   refine SL.head (pv b5) (by first | rfl | (rw [Nat.zero_add, Nat.mul_one])) ?_
   refine SL.ok (by decide) (OK.ldBox S12 0 33 113 0 (pv b2) (by kernel_rfl) rfl (by kernel_rfl)) ?_
   refine SL.ok (by decide) (OK.run 34 (pv b2) (by kernel_rfl)) ?_
   refine SL.ok (by decide) (OK.ldBox S12 3 35 3 0 (iv b.gM) (by kernel_rfl) rfl (by kernel_rfl)) ?_
   refine SL.ok (by decide) (OK.run 36 (iv (IntKind.wrap .i64 (1 * b.gM))) (by kernel_rfl)) ?_
   refine SL.head (iv (1 * b.gM)) (congrArg (Value.int .i64) (IntWalk.i64_in _ (by omega))) ?_
   refine SL.ok (by decide) (OK.run 37 (iv (IntKind.wrap .i64 (a.gM + (1 * b.gM)))) (by kernel_rfl)) ?_
   refine SL.head (iv (a.gM + (1 * b.gM))) (congrArg (Value.int .i64) (IntWalk.i64_in _ (by omega))) ?_
   refine SL.ok (by decide) (OK.run 38 (pv b1) (by kernel_rfl)) ?_
   refine SL.done ?_
   refine TL.stBox S12 4 3 0 (iv (a.gM + (1 * b.gM))) [iv (a.gM + (1 * b.gM)), iv a.gKg, iv a.gS, iv a.gA, iv a.gK] [box b5 [pv b2, .pointer (some ⟨b2, 1, none⟩), .pointer (some ⟨b2, 2, none⟩), .pointer (some ⟨b2, 3, none⟩), .pointer (some ⟨b2, 4, none⟩)] 114, box b4 [pv b1, .pointer (some ⟨b1, 1, none⟩), .pointer (some ⟨b1, 2, none⟩), .pointer (some ⟨b1, 3, none⟩), .pointer (some ⟨b1, 4, none⟩)] 114, box b3 kvV3_1 60, box b2 (untC b) 60, box b1 [iv (a.gM + (1 * b.gM)), iv a.gKg, iv a.gS, iv a.gA, iv a.gK] 60] (by kernel_rfl) rfl (by kernel_rfl) (by kernel_rfl) rfl ?_
   intro w13 S13
   refine TL.done (by kernel_rfl) ?_
   refine J.run 0 (rRest K106_5) [(22, iv 0), (9, pv b5), (8, pv b4), (6, pv b3), (3, pv b1), (2, iv 1)] w13 (by kernel_rfl) ?_
   refine J.run 6 K106_6 [(22, iv 1), (9, pv b5), (8, pv b4), (6, pv b3), (3, pv b1), (2, iv 1)] w13 (by kernel_rfl) ?_
   refine J.run 14 K106_7 [(10, iv 1), (22, iv 1), (9, pv b5), (8, pv b4), (6, pv b3), (3, pv b1), (2, iv 1)] w13 (by kernel_rfl) ?_
   refine J.drawTail S13 14 Tryz.mixed (by kernel_rfl) (by kernel_rfl) ?_
   intro w14 S14
   refine SL.ok (by decide) (OK.run 25 (iv 1) (by kernel_rfl)) ?_
   refine SL.ok (by decide) (OK.indexP 26 114 5 1 b4 0 1 1 (by kernel_rfl) (by kernel_rfl) (by omega) (by omega)) ?_
   refine SL.head (.pointer (some ⟨b4, 1, none⟩)) (by first | rfl | (rw [Nat.zero_add, Nat.mul_one])) ?_
   refine SL.ok (by decide) (OK.ldBox S14 1 27 113 1 (.pointer (some ⟨b1, 1, none⟩)) (by kernel_rfl) rfl (by kernel_rfl)) ?_
   refine SL.ok (by decide) (OK.run 28 (.pointer (some ⟨b1, 1, none⟩)) (by kernel_rfl)) ?_
   refine SL.ok (by decide) (OK.ldBox S14 4 29 3 1 (iv a.gKg) (by kernel_rfl) rfl (by kernel_rfl)) ?_
   refine SL.ok (by decide) (OK.run 30 (iv 1) (by kernel_rfl)) ?_
   refine SL.ok (by decide) (OK.run 31 (iv 1) (by kernel_rfl)) ?_
   refine SL.ok (by decide) (OK.indexP 32 114 5 1 b5 0 1 1 (by kernel_rfl) (by kernel_rfl) (by omega) (by omega)) ?_
   refine SL.head (.pointer (some ⟨b5, 1, none⟩)) (by first | rfl | (rw [Nat.zero_add, Nat.mul_one])) ?_
   refine SL.ok (by decide) (OK.ldBox S14 0 33 113 1 (.pointer (some ⟨b2, 1, none⟩)) (by kernel_rfl) rfl (by kernel_rfl)) ?_
   refine SL.ok (by decide) (OK.run 34 (.pointer (some ⟨b2, 1, none⟩)) (by kernel_rfl)) ?_
   refine SL.ok (by decide) (OK.ldBox S14 3 35 3 1 (iv b.gKg) (by kernel_rfl) rfl (by kernel_rfl)) ?_
   refine SL.ok (by decide) (OK.run 36 (iv (IntKind.wrap .i64 (1 * b.gKg))) (by kernel_rfl)) ?_
   refine SL.head (iv (1 * b.gKg)) (congrArg (Value.int .i64) (IntWalk.i64_in _ (by omega))) ?_
   refine SL.ok (by decide) (OK.run 37 (iv (IntKind.wrap .i64 (a.gKg + (1 * b.gKg)))) (by kernel_rfl)) ?_
   refine SL.head (iv (a.gKg + (1 * b.gKg))) (congrArg (Value.int .i64) (IntWalk.i64_in _ (by omega))) ?_
   refine SL.ok (by decide) (OK.run 38 (.pointer (some ⟨b1, 1, none⟩)) (by kernel_rfl)) ?_
   refine SL.done ?_
   refine TL.stBox S14 4 3 1 (iv (a.gKg + (1 * b.gKg))) [iv (a.gM + (1 * b.gM)), iv (a.gKg + (1 * b.gKg)), iv a.gS, iv a.gA, iv a.gK] [box b5 [pv b2, .pointer (some ⟨b2, 1, none⟩), .pointer (some ⟨b2, 2, none⟩), .pointer (some ⟨b2, 3, none⟩), .pointer (some ⟨b2, 4, none⟩)] 114, box b4 [pv b1, .pointer (some ⟨b1, 1, none⟩), .pointer (some ⟨b1, 2, none⟩), .pointer (some ⟨b1, 3, none⟩), .pointer (some ⟨b1, 4, none⟩)] 114, box b3 kvV3_1 60, box b2 (untC b) 60, box b1 [iv (a.gM + (1 * b.gM)), iv (a.gKg + (1 * b.gKg)), iv a.gS, iv a.gA, iv a.gK] 60] (by kernel_rfl) rfl (by kernel_rfl) (by kernel_rfl) rfl ?_
   intro w15 S15
   refine TL.done (by kernel_rfl) ?_
   refine J.run 0 (rRest K106_7) [(22, iv 1), (9, pv b5), (8, pv b4), (6, pv b3), (3, pv b1), (2, iv 1)] w15 (by kernel_rfl) ?_
   refine J.run 6 K106_8 [(22, iv 2), (9, pv b5), (8, pv b4), (6, pv b3), (3, pv b1), (2, iv 1)] w15 (by kernel_rfl) ?_
   refine J.run 14 K106_9 [(10, iv 2), (22, iv 2), (9, pv b5), (8, pv b4), (6, pv b3), (3, pv b1), (2, iv 1)] w15 (by kernel_rfl) ?_
   refine J.drawTail S15 14 Tryz.mixed (by kernel_rfl) (by kernel_rfl) ?_
   intro w16 S16
   refine SL.ok (by decide) (OK.run 25 (iv 2) (by kernel_rfl)) ?_
   refine SL.ok (by decide) (OK.indexP 26 114 5 1 b4 0 2 2 (by kernel_rfl) (by kernel_rfl) (by omega) (by omega)) ?_
   refine SL.head (.pointer (some ⟨b4, 2, none⟩)) (by first | rfl | (rw [Nat.zero_add, Nat.mul_one])) ?_
   refine SL.ok (by decide) (OK.ldBox S16 1 27 113 2 (.pointer (some ⟨b1, 2, none⟩)) (by kernel_rfl) rfl (by kernel_rfl)) ?_
   refine SL.ok (by decide) (OK.run 28 (.pointer (some ⟨b1, 2, none⟩)) (by kernel_rfl)) ?_
   refine SL.ok (by decide) (OK.ldBox S16 4 29 3 2 (iv a.gS) (by kernel_rfl) rfl (by kernel_rfl)) ?_
   refine SL.ok (by decide) (OK.run 30 (iv 1) (by kernel_rfl)) ?_
   refine SL.ok (by decide) (OK.run 31 (iv 2) (by kernel_rfl)) ?_
   refine SL.ok (by decide) (OK.indexP 32 114 5 1 b5 0 2 2 (by kernel_rfl) (by kernel_rfl) (by omega) (by omega)) ?_
   refine SL.head (.pointer (some ⟨b5, 2, none⟩)) (by first | rfl | (rw [Nat.zero_add, Nat.mul_one])) ?_
   refine SL.ok (by decide) (OK.ldBox S16 0 33 113 2 (.pointer (some ⟨b2, 2, none⟩)) (by kernel_rfl) rfl (by kernel_rfl)) ?_
   refine SL.ok (by decide) (OK.run 34 (.pointer (some ⟨b2, 2, none⟩)) (by kernel_rfl)) ?_
   refine SL.ok (by decide) (OK.ldBox S16 3 35 3 2 (iv b.gS) (by kernel_rfl) rfl (by kernel_rfl)) ?_
   refine SL.ok (by decide) (OK.run 36 (iv (IntKind.wrap .i64 (1 * b.gS))) (by kernel_rfl)) ?_
   refine SL.head (iv (1 * b.gS)) (congrArg (Value.int .i64) (IntWalk.i64_in _ (by omega))) ?_
   refine SL.ok (by decide) (OK.run 37 (iv (IntKind.wrap .i64 (a.gS + (1 * b.gS)))) (by kernel_rfl)) ?_
   refine SL.head (iv (a.gS + (1 * b.gS))) (congrArg (Value.int .i64) (IntWalk.i64_in _ (by omega))) ?_
   refine SL.ok (by decide) (OK.run 38 (.pointer (some ⟨b1, 2, none⟩)) (by kernel_rfl)) ?_
   refine SL.done ?_
   refine TL.stBox S16 4 3 2 (iv (a.gS + (1 * b.gS))) [iv (a.gM + (1 * b.gM)), iv (a.gKg + (1 * b.gKg)), iv (a.gS + (1 * b.gS)), iv a.gA, iv a.gK] [box b5 [pv b2, .pointer (some ⟨b2, 1, none⟩), .pointer (some ⟨b2, 2, none⟩), .pointer (some ⟨b2, 3, none⟩), .pointer (some ⟨b2, 4, none⟩)] 114, box b4 [pv b1, .pointer (some ⟨b1, 1, none⟩), .pointer (some ⟨b1, 2, none⟩), .pointer (some ⟨b1, 3, none⟩), .pointer (some ⟨b1, 4, none⟩)] 114, box b3 kvV3_1 60, box b2 (untC b) 60, box b1 [iv (a.gM + (1 * b.gM)), iv (a.gKg + (1 * b.gKg)), iv (a.gS + (1 * b.gS)), iv a.gA, iv a.gK] 60] (by kernel_rfl) rfl (by kernel_rfl) (by kernel_rfl) rfl ?_
   intro w17 S17
   refine TL.done (by kernel_rfl) ?_
   refine J.run 0 (rRest K106_9) [(22, iv 2), (9, pv b5), (8, pv b4), (6, pv b3), (3, pv b1), (2, iv 1)] w17 (by kernel_rfl) ?_
   refine J.run 6 K106_10 [(22, iv 3), (9, pv b5), (8, pv b4), (6, pv b3), (3, pv b1), (2, iv 1)] w17 (by kernel_rfl) ?_
   refine J.run 14 K106_11 [(10, iv 3), (22, iv 3), (9, pv b5), (8, pv b4), (6, pv b3), (3, pv b1), (2, iv 1)] w17 (by kernel_rfl) ?_
   refine J.drawTail S17 14 Tryz.mixed (by kernel_rfl) (by kernel_rfl) ?_
   intro w18 S18
   refine SL.ok (by decide) (OK.run 25 (iv 3) (by kernel_rfl)) ?_
   refine SL.ok (by decide) (OK.indexP 26 114 5 1 b4 0 3 3 (by kernel_rfl) (by kernel_rfl) (by omega) (by omega)) ?_
   refine SL.head (.pointer (some ⟨b4, 3, none⟩)) (by first | rfl | (rw [Nat.zero_add, Nat.mul_one])) ?_
   refine SL.ok (by decide) (OK.ldBox S18 1 27 113 3 (.pointer (some ⟨b1, 3, none⟩)) (by kernel_rfl) rfl (by kernel_rfl)) ?_
   refine SL.ok (by decide) (OK.run 28 (.pointer (some ⟨b1, 3, none⟩)) (by kernel_rfl)) ?_
   refine SL.ok (by decide) (OK.ldBox S18 4 29 3 3 (iv a.gA) (by kernel_rfl) rfl (by kernel_rfl)) ?_
   refine SL.ok (by decide) (OK.run 30 (iv 1) (by kernel_rfl)) ?_
   refine SL.ok (by decide) (OK.run 31 (iv 3) (by kernel_rfl)) ?_
   refine SL.ok (by decide) (OK.indexP 32 114 5 1 b5 0 3 3 (by kernel_rfl) (by kernel_rfl) (by omega) (by omega)) ?_
   refine SL.head (.pointer (some ⟨b5, 3, none⟩)) (by first | rfl | (rw [Nat.zero_add, Nat.mul_one])) ?_
   refine SL.ok (by decide) (OK.ldBox S18 0 33 113 3 (.pointer (some ⟨b2, 3, none⟩)) (by kernel_rfl) rfl (by kernel_rfl)) ?_
   refine SL.ok (by decide) (OK.run 34 (.pointer (some ⟨b2, 3, none⟩)) (by kernel_rfl)) ?_
   refine SL.ok (by decide) (OK.ldBox S18 3 35 3 3 (iv b.gA) (by kernel_rfl) rfl (by kernel_rfl)) ?_
   refine SL.ok (by decide) (OK.run 36 (iv (IntKind.wrap .i64 (1 * b.gA))) (by kernel_rfl)) ?_
   refine SL.head (iv (1 * b.gA)) (congrArg (Value.int .i64) (IntWalk.i64_in _ (by omega))) ?_
   refine SL.ok (by decide) (OK.run 37 (iv (IntKind.wrap .i64 (a.gA + (1 * b.gA)))) (by kernel_rfl)) ?_
   refine SL.head (iv (a.gA + (1 * b.gA))) (congrArg (Value.int .i64) (IntWalk.i64_in _ (by omega))) ?_
   refine SL.ok (by decide) (OK.run 38 (.pointer (some ⟨b1, 3, none⟩)) (by kernel_rfl)) ?_
   refine SL.done ?_
   refine TL.stBox S18 4 3 3 (iv (a.gA + (1 * b.gA))) [iv (a.gM + (1 * b.gM)), iv (a.gKg + (1 * b.gKg)), iv (a.gS + (1 * b.gS)), iv (a.gA + (1 * b.gA)), iv a.gK] [box b5 [pv b2, .pointer (some ⟨b2, 1, none⟩), .pointer (some ⟨b2, 2, none⟩), .pointer (some ⟨b2, 3, none⟩), .pointer (some ⟨b2, 4, none⟩)] 114, box b4 [pv b1, .pointer (some ⟨b1, 1, none⟩), .pointer (some ⟨b1, 2, none⟩), .pointer (some ⟨b1, 3, none⟩), .pointer (some ⟨b1, 4, none⟩)] 114, box b3 kvV3_1 60, box b2 (untC b) 60, box b1 [iv (a.gM + (1 * b.gM)), iv (a.gKg + (1 * b.gKg)), iv (a.gS + (1 * b.gS)), iv (a.gA + (1 * b.gA)), iv a.gK] 60] (by kernel_rfl) rfl (by kernel_rfl) (by kernel_rfl) rfl ?_
   intro w19 S19
   refine TL.done (by kernel_rfl) ?_
   refine J.run 0 (rRest K106_11) [(22, iv 3), (9, pv b5), (8, pv b4), (6, pv b3), (3, pv b1), (2, iv 1)] w19 (by kernel_rfl) ?_
   refine J.run 6 K106_12 [(22, iv 4), (9, pv b5), (8, pv b4), (6, pv b3), (3, pv b1), (2, iv 1)] w19 (by kernel_rfl) ?_
   refine J.run 14 K106_13 [(10, iv 4), (22, iv 4), (9, pv b5), (8, pv b4), (6, pv b3), (3, pv b1), (2, iv 1)] w19 (by kernel_rfl) ?_
   refine J.drawTail S19 14 Tryz.mixed (by kernel_rfl) (by kernel_rfl) ?_
   intro w20 S20
   refine SL.ok (by decide) (OK.run 25 (iv 4) (by kernel_rfl)) ?_
   refine SL.ok (by decide) (OK.indexP 26 114 5 1 b4 0 4 4 (by kernel_rfl) (by kernel_rfl) (by omega) (by omega)) ?_
   refine SL.head (.pointer (some ⟨b4, 4, none⟩)) (by first | rfl | (rw [Nat.zero_add, Nat.mul_one])) ?_
   refine SL.ok (by decide) (OK.ldBox S20 1 27 113 4 (.pointer (some ⟨b1, 4, none⟩)) (by kernel_rfl) rfl (by kernel_rfl)) ?_
   refine SL.ok (by decide) (OK.run 28 (.pointer (some ⟨b1, 4, none⟩)) (by kernel_rfl)) ?_
   refine SL.ok (by decide) (OK.ldBox S20 4 29 3 4 (iv a.gK) (by kernel_rfl) rfl (by kernel_rfl)) ?_
   refine SL.ok (by decide) (OK.run 30 (iv 1) (by kernel_rfl)) ?_
   refine SL.ok (by decide) (OK.run 31 (iv 4) (by kernel_rfl)) ?_
   refine SL.ok (by decide) (OK.indexP 32 114 5 1 b5 0 4 4 (by kernel_rfl) (by kernel_rfl) (by omega) (by omega)) ?_
   refine SL.head (.pointer (some ⟨b5, 4, none⟩)) (by first | rfl | (rw [Nat.zero_add, Nat.mul_one])) ?_
   refine SL.ok (by decide) (OK.ldBox S20 0 33 113 4 (.pointer (some ⟨b2, 4, none⟩)) (by kernel_rfl) rfl (by kernel_rfl)) ?_
   refine SL.ok (by decide) (OK.run 34 (.pointer (some ⟨b2, 4, none⟩)) (by kernel_rfl)) ?_
   refine SL.ok (by decide) (OK.ldBox S20 3 35 3 4 (iv b.gK) (by kernel_rfl) rfl (by kernel_rfl)) ?_
   refine SL.ok (by decide) (OK.run 36 (iv (IntKind.wrap .i64 (1 * b.gK))) (by kernel_rfl)) ?_
   refine SL.head (iv (1 * b.gK)) (congrArg (Value.int .i64) (IntWalk.i64_in _ (by omega))) ?_
   refine SL.ok (by decide) (OK.run 37 (iv (IntKind.wrap .i64 (a.gK + (1 * b.gK)))) (by kernel_rfl)) ?_
   refine SL.head (iv (a.gK + (1 * b.gK))) (congrArg (Value.int .i64) (IntWalk.i64_in _ (by omega))) ?_
   refine SL.ok (by decide) (OK.run 38 (.pointer (some ⟨b1, 4, none⟩)) (by kernel_rfl)) ?_
   refine SL.done ?_
   refine TL.stBox S20 4 3 4 (iv (a.gK + (1 * b.gK))) [iv (a.gM + (1 * b.gM)), iv (a.gKg + (1 * b.gKg)), iv (a.gS + (1 * b.gS)), iv (a.gA + (1 * b.gA)), iv (a.gK + (1 * b.gK))] [box b5 [pv b2, .pointer (some ⟨b2, 1, none⟩), .pointer (some ⟨b2, 2, none⟩), .pointer (some ⟨b2, 3, none⟩), .pointer (some ⟨b2, 4, none⟩)] 114, box b4 [pv b1, .pointer (some ⟨b1, 1, none⟩), .pointer (some ⟨b1, 2, none⟩), .pointer (some ⟨b1, 3, none⟩), .pointer (some ⟨b1, 4, none⟩)] 114, box b3 kvV3_1 60, box b2 (untC b) 60, box b1 [iv (a.gM + (1 * b.gM)), iv (a.gKg + (1 * b.gKg)), iv (a.gS + (1 * b.gS)), iv (a.gA + (1 * b.gA)), iv (a.gK + (1 * b.gK))] 60] (by kernel_rfl) rfl (by kernel_rfl) (by kernel_rfl) rfl ?_
   intro w21 S21
   refine TL.done (by kernel_rfl) ?_
   refine J.run 0 (rRest K106_13) [(22, iv 4), (9, pv b5), (8, pv b4), (6, pv b3), (3, pv b1), (2, iv 1)] w21 (by kernel_rfl) ?_
   refine J.run 6 K106_14 [(22, iv 5), (9, pv b5), (8, pv b4), (6, pv b3), (3, pv b1), (2, iv 1)] w21 (by kernel_rfl) ?_
   refine J.run 10 K106_15 [(6, pv b3), (3, pv b1)] w21 (by kernel_rfl) ?_
   refine J.ok (OK.ldBox S21 4 40 60 0 (.agg #[iv (a.gM + (1 * b.gM)), iv (a.gKg + (1 * b.gKg)), iv (a.gS + (1 * b.gS)), iv (a.gA + (1 * b.gA)), iv (a.gK + (1 * b.gK))]) (by kernel_rfl) rfl (by kernel_rfl)) ?_
   refine J.callF 41 64 #[.agg #[iv (a.gM + (1 * b.gM)), iv (a.gKg + (1 * b.gKg)), iv (a.gS + (1 * b.gS)), iv (a.gA + (1 * b.gA)), iv (a.gK + (1 * b.gK))]] hb64 (by kernel_rfl) (uvalid_any (⟨a.gM + (1 * b.gM), a.gKg + (1 * b.gKg), a.gS + (1 * b.gS), a.gA + (1 * b.gA), a.gK + (1 * b.gK)⟩ : Unt) _) ?_
   rintro _ w22 ⟨rfl, T5⟩
   have S22 : Sep w [box b5 [pv b2, .pointer (some ⟨b2, 1, none⟩), .pointer (some ⟨b2, 2, none⟩), .pointer (some ⟨b2, 3, none⟩), .pointer (some ⟨b2, 4, none⟩)] 114, box b4 [pv b1, .pointer (some ⟨b1, 1, none⟩), .pointer (some ⟨b1, 2, none⟩), .pointer (some ⟨b1, 3, none⟩), .pointer (some ⟨b1, 4, none⟩)] 114, box b3 kvV3_1 60, box b2 (untC b) 60, box b1 [iv (a.gM + (1 * b.gM)), iv (a.gKg + (1 * b.gKg)), iv (a.gS + (1 * b.gS)), iv (a.gA + (1 * b.gA)), iv (a.gK + (1 * b.gK))] 60] w22 := S21.trans T5
   clear T5 S21
   refine J.run 2 K106_16 [(42, .bool (!(unB (⟨a.gM + (1 * b.gM), a.gKg + (1 * b.gKg), a.gS + (1 * b.gS), a.gA + (1 * b.gA), a.gK + (1 * b.gK)⟩ : Unt)))), (6, pv b3), (3, pv b1)] w22 (by kernel_rfl) ?_
   rcases Bool.eq_false_or_eq_true (unB (⟨a.gM + (1 * b.gM), a.gKg + (1 * b.gKg), a.gS + (1 * b.gS), a.gA + (1 * b.gA), a.gK + (1 * b.gK)⟩ : Unt)) with fk3 | fk3
   ·skip
    refine J.head (.bool false) (congrArg Value.bool (by rw [fk3]; rfl)) ?_
    have fb3 := unB_iff.1 fk3
    try dsimp only at fb3
    refine J.run 4 K106_17 [(6, pv b3), (3, pv b1)] w22 (by kernel_rfl) ?_
    refine J.ok (OK.ldBox S22 4 44 60 0 (.agg #[iv (a.gM + (1 * b.gM)), iv (a.gKg + (1 * b.gKg)), iv (a.gS + (1 * b.gS)), iv (a.gA + (1 * b.gA)), iv (a.gK + (1 * b.gK))]) (by kernel_rfl) rfl (by kernel_rfl)) ?_
    refine J.stBox S22 2 60 0 (.agg #[iv (a.gM + (1 * b.gM)), iv (a.gKg + (1 * b.gKg)), iv (a.gS + (1 * b.gS)), iv (a.gA + (1 * b.gA)), iv (a.gK + (1 * b.gK))]) [iv (a.gM + (1 * b.gM)), iv (a.gKg + (1 * b.gKg)), iv (a.gS + (1 * b.gS)), iv (a.gA + (1 * b.gA)), iv (a.gK + (1 * b.gK))] [box b5 [pv b2, .pointer (some ⟨b2, 1, none⟩), .pointer (some ⟨b2, 2, none⟩), .pointer (some ⟨b2, 3, none⟩), .pointer (some ⟨b2, 4, none⟩)] 114, box b4 [pv b1, .pointer (some ⟨b1, 1, none⟩), .pointer (some ⟨b1, 2, none⟩), .pointer (some ⟨b1, 3, none⟩), .pointer (some ⟨b1, 4, none⟩)] 114, box b3 [iv (a.gM + (1 * b.gM)), iv (a.gKg + (1 * b.gKg)), iv (a.gS + (1 * b.gS)), iv (a.gA + (1 * b.gA)), iv (a.gK + (1 * b.gK))] 60, box b2 (untC b) 60, box b1 [iv (a.gM + (1 * b.gM)), iv (a.gKg + (1 * b.gKg)), iv (a.gS + (1 * b.gS)), iv (a.gA + (1 * b.gA)), iv (a.gK + (1 * b.gK))] 60] (by kernel_rfl) rfl (by kernel_rfl) (by kernel_rfl) rfl ?_
    intro w23 S23
    refine J.run 2 K106_18 [(7, iv 0), (6, pv b3)] w23 (by kernel_rfl) ?_
    refine J.ret Tryz.f106 [.agg #[iv (a.gM + (1 * b.gM)), iv (a.gKg + (1 * b.gKg)), iv (a.gS + (1 * b.gS)), iv (a.gA + (1 * b.gA)), iv (a.gK + (1 * b.gK))], iv 0] Tryz.func106 ⟨⟨⟨b3, 0, none⟩, by kernel_rfl, ldV_run (S23.nth 2 rfl) (by kernel_rfl)⟩, by kernel_rfl, trivial⟩ ?_
    refine hR _ _ ?_
    obtain ⟨e1, e2⟩ := un_in (a := a) (b := b) (s := 1) fk1 fk2 fk3
    exact ⟨by rw [e1, e2]; rfl, S23.nil⟩
   ·skip
    refine J.head (.bool true) (congrArg Value.bool (by rw [fk3]; rfl)) ?_
    have fb4 := mt unB_iff.2 (by rw [fk3]; decide)
    try dsimp only at fb4
    refine J.run 4 K106_19 [(43, .agg kvV3_2), (6, pv b3)] w22 (by kernel_rfl) ?_
    refine J.stBox S22 2 60 0 (.agg kvV3_2) kvV3_1 [box b5 [pv b2, .pointer (some ⟨b2, 1, none⟩), .pointer (some ⟨b2, 2, none⟩), .pointer (some ⟨b2, 3, none⟩), .pointer (some ⟨b2, 4, none⟩)] 114, box b4 [pv b1, .pointer (some ⟨b1, 1, none⟩), .pointer (some ⟨b1, 2, none⟩), .pointer (some ⟨b1, 3, none⟩), .pointer (some ⟨b1, 4, none⟩)] 114, box b3 kvV3_1 60, box b2 (untC b) 60, box b1 [iv (a.gM + (1 * b.gM)), iv (a.gKg + (1 * b.gKg)), iv (a.gS + (1 * b.gS)), iv (a.gA + (1 * b.gA)), iv (a.gK + (1 * b.gK))] 60] (by kernel_rfl) rfl (by kernel_rfl) (by kernel_rfl) rfl ?_
    intro w24 S24
    refine J.run 2 K106_20 [(7, iv 2), (6, pv b3)] w24 (by kernel_rfl) ?_
    refine J.ret Tryz.f106 [.agg kvV3_2, iv 2] Tryz.func106 ⟨⟨⟨b3, 0, none⟩, by kernel_rfl, ldV_run (S24.nth 2 rfl) (by kernel_rfl)⟩, by kernel_rfl, trivial⟩ ?_
    refine hR _ _ ?_
    obtain ⟨e1, e2⟩ := un_out (a := a) (b := b) (s := 1) fk1 fk2 fk3
    exact ⟨by rw [e1, e2]; rfl, S24.nil⟩
  ·skip
   refine J.head (.bool true) (congrArg Value.bool (by rw [fk2]; rfl)) ?_
   have fb5 := mt unB_iff.2 (by rw [fk2]; decide)
   try dsimp only at fb5
   refine J.run 4 K106_21 [(19, .agg kvV3_2), (6, pv b3)] w5 (by kernel_rfl) ?_
   refine J.stBox S5 0 60 0 (.agg kvV3_2) kvV3_1 [box b3 kvV3_1 60, box b2 (untC b) 60, box b1 (untC a) 60] (by kernel_rfl) rfl (by kernel_rfl) (by kernel_rfl) rfl ?_
   intro w25 S25
   refine J.run 2 K106_22 [(7, iv 1), (6, pv b3)] w25 (by kernel_rfl) ?_
   refine J.ret Tryz.f106 [.agg kvV3_2, iv 1] Tryz.func106 ⟨⟨⟨b3, 0, none⟩, by kernel_rfl, ldV_run (S25.nth 0 rfl) (by kernel_rfl)⟩, by kernel_rfl, trivial⟩ ?_
   refine hR _ _ ?_
   obtain ⟨e1, e2⟩ := un_bad (a := a) (b := b) (s := 1) (by first | exact .inl fk2 | exact .inr fk2)
   exact ⟨by rw [e1, e2]; rfl, S25.nil⟩
 ·skip
  refine J.head (.bool true) (congrArg Value.bool (by rw [fk1]; rfl)) ?_
  have fb6 := mt unB_iff.2 (by rw [fk1]; decide)
  try dsimp only at fb6
  refine J.run 9 K106_23 [(19, .agg kvV3_2), (6, pv b3)] w4 (by kernel_rfl) ?_
  refine J.stBox S4 0 60 0 (.agg kvV3_2) kvV3_1 [box b3 kvV3_1 60, box b2 (untC b) 60, box b1 (untC a) 60] (by kernel_rfl) rfl (by kernel_rfl) (by kernel_rfl) rfl ?_
  intro w26 S26
  refine J.run 2 K106_24 [(7, iv 1), (6, pv b3)] w26 (by kernel_rfl) ?_
  refine J.ret Tryz.f106 [.agg kvV3_2, iv 1] Tryz.func106 ⟨⟨⟨b3, 0, none⟩, by kernel_rfl, ldV_run (S26.nth 0 rfl) (by kernel_rfl)⟩, by kernel_rfl, trivial⟩ ?_
  refine hR _ _ ?_
  obtain ⟨e1, e2⟩ := un_bad (a := a) (b := b) (s := 1) (by first | exact .inl fk1 | exact .inr fk1)
  exact ⟨by rw [e1, e2]; rfl, S26.nil⟩

noncomputable def K106a_0 : List Item := adv 2 [] (bodyOf Tryz.f106)
noncomputable def K106a_1 : List Item := adv 5 [] (popK (popK (popK K106a_0)))
noncomputable def K106a_2 : List Item := adv 2 [] (popK (popK K106a_1))
noncomputable def K106a_3 : List Item := adv 3 [] (popK (popK K106a_2))
noncomputable def K106a_4 : List Item := adv 4 [false] K106a_3
noncomputable def K106a_5 : List Item := adv 22 [true] (popK (popK (popK (popK (popK (popK K106a_4))))))
noncomputable def K106a_6 : List Item := adv 6 [] (rRest K106a_5)
noncomputable def K106a_7 : List Item := adv 14 [true] K106a_6
noncomputable def K106a_8 : List Item := adv 6 [] (rRest K106a_7)
noncomputable def K106a_9 : List Item := adv 14 [true] K106a_8
noncomputable def K106a_10 : List Item := adv 6 [] (rRest K106a_9)
noncomputable def K106a_11 : List Item := adv 14 [true] K106a_10
noncomputable def K106a_12 : List Item := adv 6 [] (rRest K106a_11)
noncomputable def K106a_13 : List Item := adv 14 [true] K106a_12
noncomputable def K106a_14 : List Item := adv 6 [] (rRest K106a_13)
noncomputable def K106a_15 : List Item := adv 10 [false] K106a_14
noncomputable def K106a_16 : List Item := adv 2 [] (popK (popK K106a_15))
noncomputable def K106a_17 : List Item := adv 4 [false] K106a_16
noncomputable def K106a_18 : List Item := adv 2 [] (popK (popK K106a_17))
noncomputable def K106a_19 : List Item := adv 4 [true] K106a_16
noncomputable def K106a_20 : List Item := adv 2 [] (popK K106a_19)
noncomputable def K106a_21 : List Item := adv 4 [true] K106a_3
noncomputable def K106a_22 : List Item := adv 2 [] (popK K106a_21)
noncomputable def K106a_23 : List Item := adv 9 [true] K106a_2
noncomputable def K106a_24 : List Item := adv 2 [] (popK K106a_23)
set_option maxRecDepth 20000 in
set_option maxHeartbeats 20000000 in
theorem ucombm_any (a b : Unt) (w : World) : Ret Tryz.prog 106 #[.agg (untA a), .agg (untA b), iv (-1)] w (fun v w' => v = .tuple #[.agg #[iv (unX a b (-1)).gM, iv (unX a b (-1)).gKg, iv (unX a b (-1)).gS, iv (unX a b (-1)).gA, iv (unX a b (-1)).gK], iv (unE a b (-1))] ∧ Sep w [] w') := by
 have S0 := Sep.refl w
 refine Ret.named fun R hR => ?_
 refine Ret.of_J (N := 45) [(0, .agg (untA a)), (1, .agg (untA b)), (2, iv (-1))] Tryz.func106 rfl rfl (Nat.le_of_ble_eq_true (by kernel_rfl)) (by kernel_rfl) ?_
 refine J.run 2 K106a_0 [(0, .agg (untA a)), (1, .agg (untA b)), (2, iv (-1))] w (by kernel_rfl) ?_
 refine J.new S0 3 (untC a) 60 (by kernel_rfl) ?_
 intro b1 w1 S1
 refine J.new S1 4 (untC b) 60 (by kernel_rfl) ?_
 intro b2 w2 S2
 refine J.new S2 6 kvV3_1 60 (by kernel_rfl) ?_
 intro b3 w3 S3
 refine J.run 5 K106a_1 [(6, pv b3), (4, pv b2), (3, pv b1), (2, iv (-1))] w3 (by kernel_rfl) ?_
 refine J.ok (OK.ldBox S3 2 11 60 0 (.agg (untA a)) (by kernel_rfl) rfl (by kernel_rfl)) ?_
 refine J.callF 12 64 #[.agg (untA a)] hb64 (by kernel_rfl) (uvalid_any a _) ?_
 rintro _ w4 ⟨rfl, T1⟩
 have S4 : Sep w [box b3 kvV3_1 60, box b2 (untC b) 60, box b1 (untC a) 60] w4 := S3.trans T1
 clear T1 S3
 refine J.run 2 K106a_2 [(14, .bool (!(unB a))), (6, pv b3), (4, pv b2), (3, pv b1), (2, iv (-1))] w4 (by kernel_rfl) ?_
 rcases Bool.eq_false_or_eq_true (unB a) with fk1 | fk1
 ·skip
  refine J.head (.bool false) (congrArg Value.bool (by rw [fk1]; rfl)) ?_
  have fb1 := unB_iff.1 fk1
  try dsimp only at fb1
  refine J.ok (OK.ldBox S4 1 15 60 0 (.agg (untA b)) (by kernel_rfl) rfl (by kernel_rfl)) ?_
  refine J.callF 16 64 #[.agg (untA b)] hb64 (by kernel_rfl) (uvalid_any b _) ?_
  rintro _ w5 ⟨rfl, T2⟩
  have S5 : Sep w [box b3 kvV3_1 60, box b2 (untC b) 60, box b1 (untC a) 60] w5 := S4.trans T2
  clear T2 S4
  refine J.run 3 K106a_3 [(18, .bool (!(unB b))), (6, pv b3), (4, pv b2), (3, pv b1), (2, iv (-1))] w5 (by kernel_rfl) ?_
  rcases Bool.eq_false_or_eq_true (unB b) with fk2 | fk2
  ·skip
   refine J.head (.bool false) (congrArg Value.bool (by rw [fk2]; rfl)) ?_
   have fb2 := unB_iff.1 fk2
   try dsimp only at fb2
   refine J.run 4 K106a_4 [(6, pv b3), (4, pv b2), (3, pv b1), (2, iv (-1))] w5 (by kernel_rfl) ?_
   refine J.callF 20 87 #[pv b1] hb87 (by kernel_rfl) (expo_any b1 _) ?_
   rintro _ w6 ⟨rfl, T3⟩
   have S6 : Sep w [box b3 kvV3_1 60, box b2 (untC b) 60, box b1 (untC a) 60] w6 := S5.trans T3
   clear T3 S5
   refine J.callF 21 87 #[pv b2] hb87 (by kernel_rfl) (expo_any b2 _) ?_
   rintro _ w7 ⟨rfl, T4⟩
   have S7 : Sep w [box b3 kvV3_1 60, box b2 (untC b) 60, box b1 (untC a) 60] w7 := S6.trans T4
   clear T4 S6
   refine J.new S7 8 [.pointer none, .pointer none, .pointer none, .pointer none, .pointer none] 114 (by kernel_rfl) ?_
   intro b4 w8 S8
   refine J.new S8 9 [.pointer none, .pointer none, .pointer none, .pointer none, .pointer none] 114 (by kernel_rfl) ?_
   intro b5 w9 S9
   refine J.stBox S9 1 114 0 (.agg #[pv b1, .pointer (some ⟨b1, 1, none⟩), .pointer (some ⟨b1, 2, none⟩), .pointer (some ⟨b1, 3, none⟩), .pointer (some ⟨b1, 4, none⟩)]) [pv b1, .pointer (some ⟨b1, 1, none⟩), .pointer (some ⟨b1, 2, none⟩), .pointer (some ⟨b1, 3, none⟩), .pointer (some ⟨b1, 4, none⟩)] [box b5 [.pointer none, .pointer none, .pointer none, .pointer none, .pointer none] 114, box b4 [pv b1, .pointer (some ⟨b1, 1, none⟩), .pointer (some ⟨b1, 2, none⟩), .pointer (some ⟨b1, 3, none⟩), .pointer (some ⟨b1, 4, none⟩)] 114, box b3 kvV3_1 60, box b2 (untC b) 60, box b1 (untC a) 60] (by kernel_rfl) rfl (by kernel_rfl) (by kernel_rfl) rfl ?_
   intro w10 S10
   refine J.stBox S10 0 114 0 (.agg #[pv b2, .pointer (some ⟨b2, 1, none⟩), .pointer (some ⟨b2, 2, none⟩), .pointer (some ⟨b2, 3, none⟩), .pointer (some ⟨b2, 4, none⟩)]) [pv b2, .pointer (some ⟨b2, 1, none⟩), .pointer (some ⟨b2, 2, none⟩), .pointer (some ⟨b2, 3, none⟩), .pointer (some ⟨b2, 4, none⟩)] [box b5 [pv b2, .pointer (some ⟨b2, 1, none⟩), .pointer (some ⟨b2, 2, none⟩), .pointer (some ⟨b2, 3, none⟩), .pointer (some ⟨b2, 4, none⟩)] 114, box b4 [pv b1, .pointer (some ⟨b1, 1, none⟩), .pointer (some ⟨b1, 2, none⟩), .pointer (some ⟨b1, 3, none⟩), .pointer (some ⟨b1, 4, none⟩)] 114, box b3 kvV3_1 60, box b2 (untC b) 60, box b1 (untC a) 60] (by kernel_rfl) rfl (by kernel_rfl) (by kernel_rfl) rfl ?_
   intro w11 S11
   refine J.run 22 K106a_5 [(10, iv 0), (22, iv 0), (9, pv b5), (8, pv b4), (6, pv b3), (3, pv b1), (2, iv (-1))] w11 (by kernel_rfl) ?_
   refine J.drawTail S11 14 Tryz.mixed (by kernel_rfl) (by kernel_rfl) ?_
   intro w12 S12
   refine SL.ok (by decide) (OK.run 25 (iv 0) (by kernel_rfl)) ?_
   refine SL.ok (by decide) (OK.indexP 26 114 5 1 b4 0 0 0 (by kernel_rfl) (by kernel_rfl) (by omega) (by omega)) ?_
   refine SL.head (pv b4) (by first | rfl | (rw [Nat.zero_add, Nat.mul_one])) ?_
   refine SL.ok (by decide) (OK.ldBox S12 1 27 113 0 (pv b1) (by kernel_rfl) rfl (by kernel_rfl)) ?_
   refine SL.ok (by decide) (OK.run 28 (pv b1) (by kernel_rfl)) ?_
   refine SL.ok (by decide) (OK.ldBox S12 4 29 3 0 (iv a.gM) (by kernel_rfl) rfl (by kernel_rfl)) ?_
   refine SL.ok (by decide) (OK.run 30 (iv (-1)) (by kernel_rfl)) ?_
   refine SL.ok (by decide) (OK.run 31 (iv 0) (by kernel_rfl)) ?_
   refine SL.ok (by decide) (OK.indexP 32 114 5 1 b5 0 0 0 (by kernel_rfl) (by kernel_rfl) (by omega) (by omega)) ?_
   refine SL.head (pv b5) (by first | rfl | (rw [Nat.zero_add, Nat.mul_one])) ?_
   refine SL.ok (by decide) (OK.ldBox S12 0 33 113 0 (pv b2) (by kernel_rfl) rfl (by kernel_rfl)) ?_
   refine SL.ok (by decide) (OK.run 34 (pv b2) (by kernel_rfl)) ?_
   refine SL.ok (by decide) (OK.ldBox S12 3 35 3 0 (iv b.gM) (by kernel_rfl) rfl (by kernel_rfl)) ?_
   refine SL.ok (by decide) (OK.run 36 (iv (IntKind.wrap .i64 ((-1) * b.gM))) (by kernel_rfl)) ?_
   refine SL.head (iv ((-1) * b.gM)) (congrArg (Value.int .i64) (IntWalk.i64_in _ (by omega))) ?_
   refine SL.ok (by decide) (OK.run 37 (iv (IntKind.wrap .i64 (a.gM + ((-1) * b.gM)))) (by kernel_rfl)) ?_
   refine SL.head (iv (a.gM + ((-1) * b.gM))) (congrArg (Value.int .i64) (IntWalk.i64_in _ (by omega))) ?_
   refine SL.ok (by decide) (OK.run 38 (pv b1) (by kernel_rfl)) ?_
   refine SL.done ?_
   refine TL.stBox S12 4 3 0 (iv (a.gM + ((-1) * b.gM))) [iv (a.gM + ((-1) * b.gM)), iv a.gKg, iv a.gS, iv a.gA, iv a.gK] [box b5 [pv b2, .pointer (some ⟨b2, 1, none⟩), .pointer (some ⟨b2, 2, none⟩), .pointer (some ⟨b2, 3, none⟩), .pointer (some ⟨b2, 4, none⟩)] 114, box b4 [pv b1, .pointer (some ⟨b1, 1, none⟩), .pointer (some ⟨b1, 2, none⟩), .pointer (some ⟨b1, 3, none⟩), .pointer (some ⟨b1, 4, none⟩)] 114, box b3 kvV3_1 60, box b2 (untC b) 60, box b1 [iv (a.gM + ((-1) * b.gM)), iv a.gKg, iv a.gS, iv a.gA, iv a.gK] 60] (by kernel_rfl) rfl (by kernel_rfl) (by kernel_rfl) rfl ?_
   intro w13 S13
   refine TL.done (by kernel_rfl) ?_
   refine J.run 0 (rRest K106a_5) [(22, iv 0), (9, pv b5), (8, pv b4), (6, pv b3), (3, pv b1), (2, iv (-1))] w13 (by kernel_rfl) ?_
   refine J.run 6 K106a_6 [(22, iv 1), (9, pv b5), (8, pv b4), (6, pv b3), (3, pv b1), (2, iv (-1))] w13 (by kernel_rfl) ?_
   refine J.run 14 K106a_7 [(10, iv 1), (22, iv 1), (9, pv b5), (8, pv b4), (6, pv b3), (3, pv b1), (2, iv (-1))] w13 (by kernel_rfl) ?_
   refine J.drawTail S13 14 Tryz.mixed (by kernel_rfl) (by kernel_rfl) ?_
   intro w14 S14
   refine SL.ok (by decide) (OK.run 25 (iv 1) (by kernel_rfl)) ?_
   refine SL.ok (by decide) (OK.indexP 26 114 5 1 b4 0 1 1 (by kernel_rfl) (by kernel_rfl) (by omega) (by omega)) ?_
   refine SL.head (.pointer (some ⟨b4, 1, none⟩)) (by first | rfl | (rw [Nat.zero_add, Nat.mul_one])) ?_
   refine SL.ok (by decide) (OK.ldBox S14 1 27 113 1 (.pointer (some ⟨b1, 1, none⟩)) (by kernel_rfl) rfl (by kernel_rfl)) ?_
   refine SL.ok (by decide) (OK.run 28 (.pointer (some ⟨b1, 1, none⟩)) (by kernel_rfl)) ?_
   refine SL.ok (by decide) (OK.ldBox S14 4 29 3 1 (iv a.gKg) (by kernel_rfl) rfl (by kernel_rfl)) ?_
   refine SL.ok (by decide) (OK.run 30 (iv (-1)) (by kernel_rfl)) ?_
   refine SL.ok (by decide) (OK.run 31 (iv 1) (by kernel_rfl)) ?_
   refine SL.ok (by decide) (OK.indexP 32 114 5 1 b5 0 1 1 (by kernel_rfl) (by kernel_rfl) (by omega) (by omega)) ?_
   refine SL.head (.pointer (some ⟨b5, 1, none⟩)) (by first | rfl | (rw [Nat.zero_add, Nat.mul_one])) ?_
   refine SL.ok (by decide) (OK.ldBox S14 0 33 113 1 (.pointer (some ⟨b2, 1, none⟩)) (by kernel_rfl) rfl (by kernel_rfl)) ?_
   refine SL.ok (by decide) (OK.run 34 (.pointer (some ⟨b2, 1, none⟩)) (by kernel_rfl)) ?_
   refine SL.ok (by decide) (OK.ldBox S14 3 35 3 1 (iv b.gKg) (by kernel_rfl) rfl (by kernel_rfl)) ?_
   refine SL.ok (by decide) (OK.run 36 (iv (IntKind.wrap .i64 ((-1) * b.gKg))) (by kernel_rfl)) ?_
   refine SL.head (iv ((-1) * b.gKg)) (congrArg (Value.int .i64) (IntWalk.i64_in _ (by omega))) ?_
   refine SL.ok (by decide) (OK.run 37 (iv (IntKind.wrap .i64 (a.gKg + ((-1) * b.gKg)))) (by kernel_rfl)) ?_
   refine SL.head (iv (a.gKg + ((-1) * b.gKg))) (congrArg (Value.int .i64) (IntWalk.i64_in _ (by omega))) ?_
   refine SL.ok (by decide) (OK.run 38 (.pointer (some ⟨b1, 1, none⟩)) (by kernel_rfl)) ?_
   refine SL.done ?_
   refine TL.stBox S14 4 3 1 (iv (a.gKg + ((-1) * b.gKg))) [iv (a.gM + ((-1) * b.gM)), iv (a.gKg + ((-1) * b.gKg)), iv a.gS, iv a.gA, iv a.gK] [box b5 [pv b2, .pointer (some ⟨b2, 1, none⟩), .pointer (some ⟨b2, 2, none⟩), .pointer (some ⟨b2, 3, none⟩), .pointer (some ⟨b2, 4, none⟩)] 114, box b4 [pv b1, .pointer (some ⟨b1, 1, none⟩), .pointer (some ⟨b1, 2, none⟩), .pointer (some ⟨b1, 3, none⟩), .pointer (some ⟨b1, 4, none⟩)] 114, box b3 kvV3_1 60, box b2 (untC b) 60, box b1 [iv (a.gM + ((-1) * b.gM)), iv (a.gKg + ((-1) * b.gKg)), iv a.gS, iv a.gA, iv a.gK] 60] (by kernel_rfl) rfl (by kernel_rfl) (by kernel_rfl) rfl ?_
   intro w15 S15
   refine TL.done (by kernel_rfl) ?_
   refine J.run 0 (rRest K106a_7) [(22, iv 1), (9, pv b5), (8, pv b4), (6, pv b3), (3, pv b1), (2, iv (-1))] w15 (by kernel_rfl) ?_
   refine J.run 6 K106a_8 [(22, iv 2), (9, pv b5), (8, pv b4), (6, pv b3), (3, pv b1), (2, iv (-1))] w15 (by kernel_rfl) ?_
   refine J.run 14 K106a_9 [(10, iv 2), (22, iv 2), (9, pv b5), (8, pv b4), (6, pv b3), (3, pv b1), (2, iv (-1))] w15 (by kernel_rfl) ?_
   refine J.drawTail S15 14 Tryz.mixed (by kernel_rfl) (by kernel_rfl) ?_
   intro w16 S16
   refine SL.ok (by decide) (OK.run 25 (iv 2) (by kernel_rfl)) ?_
   refine SL.ok (by decide) (OK.indexP 26 114 5 1 b4 0 2 2 (by kernel_rfl) (by kernel_rfl) (by omega) (by omega)) ?_
   refine SL.head (.pointer (some ⟨b4, 2, none⟩)) (by first | rfl | (rw [Nat.zero_add, Nat.mul_one])) ?_
   refine SL.ok (by decide) (OK.ldBox S16 1 27 113 2 (.pointer (some ⟨b1, 2, none⟩)) (by kernel_rfl) rfl (by kernel_rfl)) ?_
   refine SL.ok (by decide) (OK.run 28 (.pointer (some ⟨b1, 2, none⟩)) (by kernel_rfl)) ?_
   refine SL.ok (by decide) (OK.ldBox S16 4 29 3 2 (iv a.gS) (by kernel_rfl) rfl (by kernel_rfl)) ?_
   refine SL.ok (by decide) (OK.run 30 (iv (-1)) (by kernel_rfl)) ?_
   refine SL.ok (by decide) (OK.run 31 (iv 2) (by kernel_rfl)) ?_
   refine SL.ok (by decide) (OK.indexP 32 114 5 1 b5 0 2 2 (by kernel_rfl) (by kernel_rfl) (by omega) (by omega)) ?_
   refine SL.head (.pointer (some ⟨b5, 2, none⟩)) (by first | rfl | (rw [Nat.zero_add, Nat.mul_one])) ?_
   refine SL.ok (by decide) (OK.ldBox S16 0 33 113 2 (.pointer (some ⟨b2, 2, none⟩)) (by kernel_rfl) rfl (by kernel_rfl)) ?_
   refine SL.ok (by decide) (OK.run 34 (.pointer (some ⟨b2, 2, none⟩)) (by kernel_rfl)) ?_
   refine SL.ok (by decide) (OK.ldBox S16 3 35 3 2 (iv b.gS) (by kernel_rfl) rfl (by kernel_rfl)) ?_
   refine SL.ok (by decide) (OK.run 36 (iv (IntKind.wrap .i64 ((-1) * b.gS))) (by kernel_rfl)) ?_
   refine SL.head (iv ((-1) * b.gS)) (congrArg (Value.int .i64) (IntWalk.i64_in _ (by omega))) ?_
   refine SL.ok (by decide) (OK.run 37 (iv (IntKind.wrap .i64 (a.gS + ((-1) * b.gS)))) (by kernel_rfl)) ?_
   refine SL.head (iv (a.gS + ((-1) * b.gS))) (congrArg (Value.int .i64) (IntWalk.i64_in _ (by omega))) ?_
   refine SL.ok (by decide) (OK.run 38 (.pointer (some ⟨b1, 2, none⟩)) (by kernel_rfl)) ?_
   refine SL.done ?_
   refine TL.stBox S16 4 3 2 (iv (a.gS + ((-1) * b.gS))) [iv (a.gM + ((-1) * b.gM)), iv (a.gKg + ((-1) * b.gKg)), iv (a.gS + ((-1) * b.gS)), iv a.gA, iv a.gK] [box b5 [pv b2, .pointer (some ⟨b2, 1, none⟩), .pointer (some ⟨b2, 2, none⟩), .pointer (some ⟨b2, 3, none⟩), .pointer (some ⟨b2, 4, none⟩)] 114, box b4 [pv b1, .pointer (some ⟨b1, 1, none⟩), .pointer (some ⟨b1, 2, none⟩), .pointer (some ⟨b1, 3, none⟩), .pointer (some ⟨b1, 4, none⟩)] 114, box b3 kvV3_1 60, box b2 (untC b) 60, box b1 [iv (a.gM + ((-1) * b.gM)), iv (a.gKg + ((-1) * b.gKg)), iv (a.gS + ((-1) * b.gS)), iv a.gA, iv a.gK] 60] (by kernel_rfl) rfl (by kernel_rfl) (by kernel_rfl) rfl ?_
   intro w17 S17
   refine TL.done (by kernel_rfl) ?_
   refine J.run 0 (rRest K106a_9) [(22, iv 2), (9, pv b5), (8, pv b4), (6, pv b3), (3, pv b1), (2, iv (-1))] w17 (by kernel_rfl) ?_
   refine J.run 6 K106a_10 [(22, iv 3), (9, pv b5), (8, pv b4), (6, pv b3), (3, pv b1), (2, iv (-1))] w17 (by kernel_rfl) ?_
   refine J.run 14 K106a_11 [(10, iv 3), (22, iv 3), (9, pv b5), (8, pv b4), (6, pv b3), (3, pv b1), (2, iv (-1))] w17 (by kernel_rfl) ?_
   refine J.drawTail S17 14 Tryz.mixed (by kernel_rfl) (by kernel_rfl) ?_
   intro w18 S18
   refine SL.ok (by decide) (OK.run 25 (iv 3) (by kernel_rfl)) ?_
   refine SL.ok (by decide) (OK.indexP 26 114 5 1 b4 0 3 3 (by kernel_rfl) (by kernel_rfl) (by omega) (by omega)) ?_
   refine SL.head (.pointer (some ⟨b4, 3, none⟩)) (by first | rfl | (rw [Nat.zero_add, Nat.mul_one])) ?_
   refine SL.ok (by decide) (OK.ldBox S18 1 27 113 3 (.pointer (some ⟨b1, 3, none⟩)) (by kernel_rfl) rfl (by kernel_rfl)) ?_
   refine SL.ok (by decide) (OK.run 28 (.pointer (some ⟨b1, 3, none⟩)) (by kernel_rfl)) ?_
   refine SL.ok (by decide) (OK.ldBox S18 4 29 3 3 (iv a.gA) (by kernel_rfl) rfl (by kernel_rfl)) ?_
   refine SL.ok (by decide) (OK.run 30 (iv (-1)) (by kernel_rfl)) ?_
   refine SL.ok (by decide) (OK.run 31 (iv 3) (by kernel_rfl)) ?_
   refine SL.ok (by decide) (OK.indexP 32 114 5 1 b5 0 3 3 (by kernel_rfl) (by kernel_rfl) (by omega) (by omega)) ?_
   refine SL.head (.pointer (some ⟨b5, 3, none⟩)) (by first | rfl | (rw [Nat.zero_add, Nat.mul_one])) ?_
   refine SL.ok (by decide) (OK.ldBox S18 0 33 113 3 (.pointer (some ⟨b2, 3, none⟩)) (by kernel_rfl) rfl (by kernel_rfl)) ?_
   refine SL.ok (by decide) (OK.run 34 (.pointer (some ⟨b2, 3, none⟩)) (by kernel_rfl)) ?_
   refine SL.ok (by decide) (OK.ldBox S18 3 35 3 3 (iv b.gA) (by kernel_rfl) rfl (by kernel_rfl)) ?_
   refine SL.ok (by decide) (OK.run 36 (iv (IntKind.wrap .i64 ((-1) * b.gA))) (by kernel_rfl)) ?_
   refine SL.head (iv ((-1) * b.gA)) (congrArg (Value.int .i64) (IntWalk.i64_in _ (by omega))) ?_
   refine SL.ok (by decide) (OK.run 37 (iv (IntKind.wrap .i64 (a.gA + ((-1) * b.gA)))) (by kernel_rfl)) ?_
   refine SL.head (iv (a.gA + ((-1) * b.gA))) (congrArg (Value.int .i64) (IntWalk.i64_in _ (by omega))) ?_
   refine SL.ok (by decide) (OK.run 38 (.pointer (some ⟨b1, 3, none⟩)) (by kernel_rfl)) ?_
   refine SL.done ?_
   refine TL.stBox S18 4 3 3 (iv (a.gA + ((-1) * b.gA))) [iv (a.gM + ((-1) * b.gM)), iv (a.gKg + ((-1) * b.gKg)), iv (a.gS + ((-1) * b.gS)), iv (a.gA + ((-1) * b.gA)), iv a.gK] [box b5 [pv b2, .pointer (some ⟨b2, 1, none⟩), .pointer (some ⟨b2, 2, none⟩), .pointer (some ⟨b2, 3, none⟩), .pointer (some ⟨b2, 4, none⟩)] 114, box b4 [pv b1, .pointer (some ⟨b1, 1, none⟩), .pointer (some ⟨b1, 2, none⟩), .pointer (some ⟨b1, 3, none⟩), .pointer (some ⟨b1, 4, none⟩)] 114, box b3 kvV3_1 60, box b2 (untC b) 60, box b1 [iv (a.gM + ((-1) * b.gM)), iv (a.gKg + ((-1) * b.gKg)), iv (a.gS + ((-1) * b.gS)), iv (a.gA + ((-1) * b.gA)), iv a.gK] 60] (by kernel_rfl) rfl (by kernel_rfl) (by kernel_rfl) rfl ?_
   intro w19 S19
   refine TL.done (by kernel_rfl) ?_
   refine J.run 0 (rRest K106a_11) [(22, iv 3), (9, pv b5), (8, pv b4), (6, pv b3), (3, pv b1), (2, iv (-1))] w19 (by kernel_rfl) ?_
   refine J.run 6 K106a_12 [(22, iv 4), (9, pv b5), (8, pv b4), (6, pv b3), (3, pv b1), (2, iv (-1))] w19 (by kernel_rfl) ?_
   refine J.run 14 K106a_13 [(10, iv 4), (22, iv 4), (9, pv b5), (8, pv b4), (6, pv b3), (3, pv b1), (2, iv (-1))] w19 (by kernel_rfl) ?_
   refine J.drawTail S19 14 Tryz.mixed (by kernel_rfl) (by kernel_rfl) ?_
   intro w20 S20
   refine SL.ok (by decide) (OK.run 25 (iv 4) (by kernel_rfl)) ?_
   refine SL.ok (by decide) (OK.indexP 26 114 5 1 b4 0 4 4 (by kernel_rfl) (by kernel_rfl) (by omega) (by omega)) ?_
   refine SL.head (.pointer (some ⟨b4, 4, none⟩)) (by first | rfl | (rw [Nat.zero_add, Nat.mul_one])) ?_
   refine SL.ok (by decide) (OK.ldBox S20 1 27 113 4 (.pointer (some ⟨b1, 4, none⟩)) (by kernel_rfl) rfl (by kernel_rfl)) ?_
   refine SL.ok (by decide) (OK.run 28 (.pointer (some ⟨b1, 4, none⟩)) (by kernel_rfl)) ?_
   refine SL.ok (by decide) (OK.ldBox S20 4 29 3 4 (iv a.gK) (by kernel_rfl) rfl (by kernel_rfl)) ?_
   refine SL.ok (by decide) (OK.run 30 (iv (-1)) (by kernel_rfl)) ?_
   refine SL.ok (by decide) (OK.run 31 (iv 4) (by kernel_rfl)) ?_
   refine SL.ok (by decide) (OK.indexP 32 114 5 1 b5 0 4 4 (by kernel_rfl) (by kernel_rfl) (by omega) (by omega)) ?_
   refine SL.head (.pointer (some ⟨b5, 4, none⟩)) (by first | rfl | (rw [Nat.zero_add, Nat.mul_one])) ?_
   refine SL.ok (by decide) (OK.ldBox S20 0 33 113 4 (.pointer (some ⟨b2, 4, none⟩)) (by kernel_rfl) rfl (by kernel_rfl)) ?_
   refine SL.ok (by decide) (OK.run 34 (.pointer (some ⟨b2, 4, none⟩)) (by kernel_rfl)) ?_
   refine SL.ok (by decide) (OK.ldBox S20 3 35 3 4 (iv b.gK) (by kernel_rfl) rfl (by kernel_rfl)) ?_
   refine SL.ok (by decide) (OK.run 36 (iv (IntKind.wrap .i64 ((-1) * b.gK))) (by kernel_rfl)) ?_
   refine SL.head (iv ((-1) * b.gK)) (congrArg (Value.int .i64) (IntWalk.i64_in _ (by omega))) ?_
   refine SL.ok (by decide) (OK.run 37 (iv (IntKind.wrap .i64 (a.gK + ((-1) * b.gK)))) (by kernel_rfl)) ?_
   refine SL.head (iv (a.gK + ((-1) * b.gK))) (congrArg (Value.int .i64) (IntWalk.i64_in _ (by omega))) ?_
   refine SL.ok (by decide) (OK.run 38 (.pointer (some ⟨b1, 4, none⟩)) (by kernel_rfl)) ?_
   refine SL.done ?_
   refine TL.stBox S20 4 3 4 (iv (a.gK + ((-1) * b.gK))) [iv (a.gM + ((-1) * b.gM)), iv (a.gKg + ((-1) * b.gKg)), iv (a.gS + ((-1) * b.gS)), iv (a.gA + ((-1) * b.gA)), iv (a.gK + ((-1) * b.gK))] [box b5 [pv b2, .pointer (some ⟨b2, 1, none⟩), .pointer (some ⟨b2, 2, none⟩), .pointer (some ⟨b2, 3, none⟩), .pointer (some ⟨b2, 4, none⟩)] 114, box b4 [pv b1, .pointer (some ⟨b1, 1, none⟩), .pointer (some ⟨b1, 2, none⟩), .pointer (some ⟨b1, 3, none⟩), .pointer (some ⟨b1, 4, none⟩)] 114, box b3 kvV3_1 60, box b2 (untC b) 60, box b1 [iv (a.gM + ((-1) * b.gM)), iv (a.gKg + ((-1) * b.gKg)), iv (a.gS + ((-1) * b.gS)), iv (a.gA + ((-1) * b.gA)), iv (a.gK + ((-1) * b.gK))] 60] (by kernel_rfl) rfl (by kernel_rfl) (by kernel_rfl) rfl ?_
   intro w21 S21
   refine TL.done (by kernel_rfl) ?_
   refine J.run 0 (rRest K106a_13) [(22, iv 4), (9, pv b5), (8, pv b4), (6, pv b3), (3, pv b1), (2, iv (-1))] w21 (by kernel_rfl) ?_
   refine J.run 6 K106a_14 [(22, iv 5), (9, pv b5), (8, pv b4), (6, pv b3), (3, pv b1), (2, iv (-1))] w21 (by kernel_rfl) ?_
   refine J.run 10 K106a_15 [(6, pv b3), (3, pv b1)] w21 (by kernel_rfl) ?_
   refine J.ok (OK.ldBox S21 4 40 60 0 (.agg #[iv (a.gM + ((-1) * b.gM)), iv (a.gKg + ((-1) * b.gKg)), iv (a.gS + ((-1) * b.gS)), iv (a.gA + ((-1) * b.gA)), iv (a.gK + ((-1) * b.gK))]) (by kernel_rfl) rfl (by kernel_rfl)) ?_
   refine J.callF 41 64 #[.agg #[iv (a.gM + ((-1) * b.gM)), iv (a.gKg + ((-1) * b.gKg)), iv (a.gS + ((-1) * b.gS)), iv (a.gA + ((-1) * b.gA)), iv (a.gK + ((-1) * b.gK))]] hb64 (by kernel_rfl) (uvalid_any (⟨a.gM + ((-1) * b.gM), a.gKg + ((-1) * b.gKg), a.gS + ((-1) * b.gS), a.gA + ((-1) * b.gA), a.gK + ((-1) * b.gK)⟩ : Unt) _) ?_
   rintro _ w22 ⟨rfl, T5⟩
   have S22 : Sep w [box b5 [pv b2, .pointer (some ⟨b2, 1, none⟩), .pointer (some ⟨b2, 2, none⟩), .pointer (some ⟨b2, 3, none⟩), .pointer (some ⟨b2, 4, none⟩)] 114, box b4 [pv b1, .pointer (some ⟨b1, 1, none⟩), .pointer (some ⟨b1, 2, none⟩), .pointer (some ⟨b1, 3, none⟩), .pointer (some ⟨b1, 4, none⟩)] 114, box b3 kvV3_1 60, box b2 (untC b) 60, box b1 [iv (a.gM + ((-1) * b.gM)), iv (a.gKg + ((-1) * b.gKg)), iv (a.gS + ((-1) * b.gS)), iv (a.gA + ((-1) * b.gA)), iv (a.gK + ((-1) * b.gK))] 60] w22 := S21.trans T5
   clear T5 S21
   refine J.run 2 K106a_16 [(42, .bool (!(unB (⟨a.gM + ((-1) * b.gM), a.gKg + ((-1) * b.gKg), a.gS + ((-1) * b.gS), a.gA + ((-1) * b.gA), a.gK + ((-1) * b.gK)⟩ : Unt)))), (6, pv b3), (3, pv b1)] w22 (by kernel_rfl) ?_
   rcases Bool.eq_false_or_eq_true (unB (⟨a.gM + ((-1) * b.gM), a.gKg + ((-1) * b.gKg), a.gS + ((-1) * b.gS), a.gA + ((-1) * b.gA), a.gK + ((-1) * b.gK)⟩ : Unt)) with fk3 | fk3
   ·skip
    refine J.head (.bool false) (congrArg Value.bool (by rw [fk3]; rfl)) ?_
    have fb3 := unB_iff.1 fk3
    try dsimp only at fb3
    refine J.run 4 K106a_17 [(6, pv b3), (3, pv b1)] w22 (by kernel_rfl) ?_
    refine J.ok (OK.ldBox S22 4 44 60 0 (.agg #[iv (a.gM + ((-1) * b.gM)), iv (a.gKg + ((-1) * b.gKg)), iv (a.gS + ((-1) * b.gS)), iv (a.gA + ((-1) * b.gA)), iv (a.gK + ((-1) * b.gK))]) (by kernel_rfl) rfl (by kernel_rfl)) ?_
    refine J.stBox S22 2 60 0 (.agg #[iv (a.gM + ((-1) * b.gM)), iv (a.gKg + ((-1) * b.gKg)), iv (a.gS + ((-1) * b.gS)), iv (a.gA + ((-1) * b.gA)), iv (a.gK + ((-1) * b.gK))]) [iv (a.gM + ((-1) * b.gM)), iv (a.gKg + ((-1) * b.gKg)), iv (a.gS + ((-1) * b.gS)), iv (a.gA + ((-1) * b.gA)), iv (a.gK + ((-1) * b.gK))] [box b5 [pv b2, .pointer (some ⟨b2, 1, none⟩), .pointer (some ⟨b2, 2, none⟩), .pointer (some ⟨b2, 3, none⟩), .pointer (some ⟨b2, 4, none⟩)] 114, box b4 [pv b1, .pointer (some ⟨b1, 1, none⟩), .pointer (some ⟨b1, 2, none⟩), .pointer (some ⟨b1, 3, none⟩), .pointer (some ⟨b1, 4, none⟩)] 114, box b3 [iv (a.gM + ((-1) * b.gM)), iv (a.gKg + ((-1) * b.gKg)), iv (a.gS + ((-1) * b.gS)), iv (a.gA + ((-1) * b.gA)), iv (a.gK + ((-1) * b.gK))] 60, box b2 (untC b) 60, box b1 [iv (a.gM + ((-1) * b.gM)), iv (a.gKg + ((-1) * b.gKg)), iv (a.gS + ((-1) * b.gS)), iv (a.gA + ((-1) * b.gA)), iv (a.gK + ((-1) * b.gK))] 60] (by kernel_rfl) rfl (by kernel_rfl) (by kernel_rfl) rfl ?_
    intro w23 S23
    refine J.run 2 K106a_18 [(7, iv 0), (6, pv b3)] w23 (by kernel_rfl) ?_
    refine J.ret Tryz.f106 [.agg #[iv (a.gM + ((-1) * b.gM)), iv (a.gKg + ((-1) * b.gKg)), iv (a.gS + ((-1) * b.gS)), iv (a.gA + ((-1) * b.gA)), iv (a.gK + ((-1) * b.gK))], iv 0] Tryz.func106 ⟨⟨⟨b3, 0, none⟩, by kernel_rfl, ldV_run (S23.nth 2 rfl) (by kernel_rfl)⟩, by kernel_rfl, trivial⟩ ?_
    refine hR _ _ ?_
    obtain ⟨e1, e2⟩ := un_in (a := a) (b := b) (s := (-1)) fk1 fk2 fk3
    exact ⟨by rw [e1, e2]; rfl, S23.nil⟩
   ·skip
    refine J.head (.bool true) (congrArg Value.bool (by rw [fk3]; rfl)) ?_
    have fb4 := mt unB_iff.2 (by rw [fk3]; decide)
    try dsimp only at fb4
    refine J.run 4 K106a_19 [(43, .agg kvV3_2), (6, pv b3)] w22 (by kernel_rfl) ?_
    refine J.stBox S22 2 60 0 (.agg kvV3_2) kvV3_1 [box b5 [pv b2, .pointer (some ⟨b2, 1, none⟩), .pointer (some ⟨b2, 2, none⟩), .pointer (some ⟨b2, 3, none⟩), .pointer (some ⟨b2, 4, none⟩)] 114, box b4 [pv b1, .pointer (some ⟨b1, 1, none⟩), .pointer (some ⟨b1, 2, none⟩), .pointer (some ⟨b1, 3, none⟩), .pointer (some ⟨b1, 4, none⟩)] 114, box b3 kvV3_1 60, box b2 (untC b) 60, box b1 [iv (a.gM + ((-1) * b.gM)), iv (a.gKg + ((-1) * b.gKg)), iv (a.gS + ((-1) * b.gS)), iv (a.gA + ((-1) * b.gA)), iv (a.gK + ((-1) * b.gK))] 60] (by kernel_rfl) rfl (by kernel_rfl) (by kernel_rfl) rfl ?_
    intro w24 S24
    refine J.run 2 K106a_20 [(7, iv 2), (6, pv b3)] w24 (by kernel_rfl) ?_
    refine J.ret Tryz.f106 [.agg kvV3_2, iv 2] Tryz.func106 ⟨⟨⟨b3, 0, none⟩, by kernel_rfl, ldV_run (S24.nth 2 rfl) (by kernel_rfl)⟩, by kernel_rfl, trivial⟩ ?_
    refine hR _ _ ?_
    obtain ⟨e1, e2⟩ := un_out (a := a) (b := b) (s := (-1)) fk1 fk2 fk3
    exact ⟨by rw [e1, e2]; rfl, S24.nil⟩
  ·skip
   refine J.head (.bool true) (congrArg Value.bool (by rw [fk2]; rfl)) ?_
   have fb5 := mt unB_iff.2 (by rw [fk2]; decide)
   try dsimp only at fb5
   refine J.run 4 K106a_21 [(19, .agg kvV3_2), (6, pv b3)] w5 (by kernel_rfl) ?_
   refine J.stBox S5 0 60 0 (.agg kvV3_2) kvV3_1 [box b3 kvV3_1 60, box b2 (untC b) 60, box b1 (untC a) 60] (by kernel_rfl) rfl (by kernel_rfl) (by kernel_rfl) rfl ?_
   intro w25 S25
   refine J.run 2 K106a_22 [(7, iv 1), (6, pv b3)] w25 (by kernel_rfl) ?_
   refine J.ret Tryz.f106 [.agg kvV3_2, iv 1] Tryz.func106 ⟨⟨⟨b3, 0, none⟩, by kernel_rfl, ldV_run (S25.nth 0 rfl) (by kernel_rfl)⟩, by kernel_rfl, trivial⟩ ?_
   refine hR _ _ ?_
   obtain ⟨e1, e2⟩ := un_bad (a := a) (b := b) (s := (-1)) (by first | exact .inl fk2 | exact .inr fk2)
   exact ⟨by rw [e1, e2]; rfl, S25.nil⟩
 ·skip
  refine J.head (.bool true) (congrArg Value.bool (by rw [fk1]; rfl)) ?_
  have fb6 := mt unB_iff.2 (by rw [fk1]; decide)
  try dsimp only at fb6
  refine J.run 9 K106a_23 [(19, .agg kvV3_2), (6, pv b3)] w4 (by kernel_rfl) ?_
  refine J.stBox S4 0 60 0 (.agg kvV3_2) kvV3_1 [box b3 kvV3_1 60, box b2 (untC b) 60, box b1 (untC a) 60] (by kernel_rfl) rfl (by kernel_rfl) (by kernel_rfl) rfl ?_
  intro w26 S26
  refine J.run 2 K106a_24 [(7, iv 1), (6, pv b3)] w26 (by kernel_rfl) ?_
  refine J.ret Tryz.f106 [.agg kvV3_2, iv 1] Tryz.func106 ⟨⟨⟨b3, 0, none⟩, by kernel_rfl, ldV_run (S26.nth 0 rfl) (by kernel_rfl)⟩, by kernel_rfl, trivial⟩ ?_
  refine hR _ _ ?_
  obtain ⟨e1, e2⟩ := un_bad (a := a) (b := b) (s := (-1)) (by first | exact .inl fk1 | exact .inr fk1)
  exact ⟨by rw [e1, e2]; rfl, S26.nil⟩

theorem hb86 : HasBody Tryz.prog 86 := fun _ _ => by kernel_rfl
noncomputable def K86_0 : List Item := adv 2 [] (bodyOf Tryz.f86)
noncomputable def K86_1 : List Item := adv 5 [] (popK (popK (popK K86_0)))
noncomputable def K86_2 : List Item := adv 2 [] (popK (popK K86_1))
noncomputable def K86_3 : List Item := adv 3 [] (popK (popK K86_2))
noncomputable def K86_4 : List Item := adv 3 [false] K86_3
noncomputable def K86_5 : List Item := adv 17 [true] (rRest K86_4)
noncomputable def K86_6 : List Item := adv 7 [] (rRest K86_5)
noncomputable def K86_7 : List Item := adv 10 [true] K86_6
noncomputable def K86_8 : List Item := adv 7 [] (rRest K86_7)
noncomputable def K86_9 : List Item := adv 10 [true] K86_8
noncomputable def K86_10 : List Item := adv 7 [] (rRest K86_9)
noncomputable def K86_11 : List Item := adv 10 [true] K86_10
noncomputable def K86_12 : List Item := adv 7 [] (rRest K86_11)
noncomputable def K86_13 : List Item := adv 10 [true] K86_12
noncomputable def K86_14 : List Item := adv 7 [] (rRest K86_13)
noncomputable def K86_15 : List Item := adv 11 [false] K86_14
noncomputable def K86_16 : List Item := adv 4 [] (popK (popK (popK K86_15)))
noncomputable def K86_17 : List Item := adv 2 [] (popK (popK K86_16))
noncomputable def K86_18 : List Item := adv 4 [false] K86_17
noncomputable def K86_19 : List Item := adv 2 [] (popK (popK K86_18))
noncomputable def K86_20 : List Item := adv 4 [true] K86_17
noncomputable def K86_21 : List Item := adv 2 [] (popK K86_20)
noncomputable def K86_22 : List Item := adv 4 [true] K86_3
noncomputable def K86_23 : List Item := adv 2 [] (popK K86_22)
noncomputable def K86_24 : List Item := adv 9 [true] K86_2
noncomputable def K86_25 : List Item := adv 2 [] (popK K86_24)
set_option maxRecDepth 20000 in
set_option maxHeartbeats 20000000 in
theorem rucomb_any (a b : Unt) (w : World) : Ret Tryz.prog 86 #[.agg (untA a), .agg (untA b), iv 1] w (fun v w' => v = .tuple #[.agg #[iv (unX a b 1).gM, iv (unX a b 1).gKg, iv (unX a b 1).gS, iv (unX a b 1).gA, iv (unX a b 1).gK], iv (unE a b 1)] ∧ Sep w [] w') := by
 have S0 := Sep.refl w
 refine Ret.named fun R hR => ?_
 refine Ret.of_J (N := 50) [(0, .agg (untA a)), (1, .agg (untA b)), (2, iv 1)] Tryz.func86 rfl rfl (Nat.le_of_ble_eq_true (by kernel_rfl)) (by kernel_rfl) ?_
 refine J.run 2 K86_0 [(0, .agg (untA a)), (1, .agg (untA b)), (2, iv 1)] w (by kernel_rfl) ?_
 refine J.new S0 3 (untC a) 60 (by kernel_rfl) ?_
 intro b1 w1 S1
 refine J.new S1 4 (untC b) 60 (by kernel_rfl) ?_
 intro b2 w2 S2
 refine J.new S2 6 kvV3_1 60 (by kernel_rfl) ?_
 intro b3 w3 S3
 refine J.run 5 K86_1 [(6, pv b3), (4, pv b2), (3, pv b1), (2, iv 1)] w3 (by kernel_rfl) ?_
 refine J.ok (OK.ldBox S3 2 12 60 0 (.agg (untA a)) (by kernel_rfl) rfl (by kernel_rfl)) ?_
 refine J.callF 13 103 #[.agg (untA a)] hb103 (by kernel_rfl) (ruvalid_any a _) ?_
 rintro _ w4 ⟨rfl, T1⟩
 have S4 : Sep w [box b3 kvV3_1 60, box b2 (untC b) 60, box b1 (untC a) 60] w4 := S3.trans T1
 clear T1 S3
 refine J.run 2 K86_2 [(15, .bool (!(unB a))), (6, pv b3), (4, pv b2), (3, pv b1), (2, iv 1)] w4 (by kernel_rfl) ?_
 rcases Bool.eq_false_or_eq_true (unB a) with fk1 | fk1
 ·skip
  refine J.head (.bool false) (congrArg Value.bool (by rw [fk1]; rfl)) ?_
  have fb1 := unB_iff.1 fk1
  try dsimp only at fb1
  refine J.ok (OK.ldBox S4 1 16 60 0 (.agg (untA b)) (by kernel_rfl) rfl (by kernel_rfl)) ?_
  refine J.callF 17 103 #[.agg (untA b)] hb103 (by kernel_rfl) (ruvalid_any b _) ?_
  rintro _ w5 ⟨rfl, T2⟩
  have S5 : Sep w [box b3 kvV3_1 60, box b2 (untC b) 60, box b1 (untC a) 60] w5 := S4.trans T2
  clear T2 S4
  refine J.run 3 K86_3 [(19, .bool (!(unB b))), (6, pv b3), (4, pv b2), (3, pv b1), (2, iv 1)] w5 (by kernel_rfl) ?_
  rcases Bool.eq_false_or_eq_true (unB b) with fk2 | fk2
  ·skip
   refine J.head (.bool false) (congrArg Value.bool (by rw [fk2]; rfl)) ?_
   have fb2 := unB_iff.1 fk2
   try dsimp only at fb2
   refine J.run 3 K86_4 [(6, pv b3), (4, pv b2), (3, pv b1), (2, iv 1)] w5 (by kernel_rfl) ?_
   refine J.drawPlan (fun w_ => Sep w [box b3 kvV3_1 60, box b2 (untC b) 60, box b1 (untC a) 60] w_) [(0, true), (2, true), (1, false), (3, false), (4, true), (5, true)] S5 Tryz.mixed (by kernel_rfl) (planOK_of (T := [(0, some 21, 8), (1, some 22, 2097152), (0, some 23, 16), (6, some 24, 8388608), (11, some 8, 4194304), (31, some 9, 16777216)]) (by kernel_rfl) (by kernel_rfl)) ?_
   intro w6 S6
   refine PB.mk S6 ?_
   refine PL.takeOK 0 (fun w_ S_ => OK.ldBox S_ 2 21 60 0 (.agg (untA a)) (by kernel_rfl) rfl (by kernel_rfl)) rfl ?_
   refine PL.takeOK 2 (fun w_ S_ => OK.ldBox S_ 1 23 60 0 (.agg (untA b)) (by kernel_rfl) rfl (by kernel_rfl)) rfl ?_
   refine PL.callF 22 104 #[.agg (untA a)] hb104 (by kernel_rfl) (list_any a _) ?_
   rintro _ w7 ⟨bd1, rfl, T3⟩
   have S7 : Sep w [box bd1 (untC a) 3, box b3 kvV3_1 60, box b2 (untC b) 60, box b1 (untC a) 60] w7 := S6.trans T3
   clear T3 S6
   refine PB.mk (S7.erase 0) ?_
   refine PL.callF 24 104 #[.agg (untA b)] hb104 (by kernel_rfl) (list_any b _) ?_
   rintro _ w8 ⟨bd3, rfl, T4⟩
   have S8 : Sep w [box bd3 (untC b) 3, box bd1 (untC a) 3, box b3 kvV3_1 60, box b2 (untC b) 60, box b1 (untC a) 60] w8 := S7.trans T4
   clear T4 S7
   refine PB.mk ((S8.erase 1).erase 0) ?_
   refine PL.take 4 8 (.slice (some ⟨bd1, 0, none⟩) 5 5) (fun _ _ => by kernel_rfl) ?_
   refine PL.take 5 9 (.slice (some ⟨bd3, 0, none⟩) 5 5) (fun _ _ => by kernel_rfl) ?_
   refine PL.done ?_
   refine J.run 0 (rRest K86_4) [(9, .slice (some ⟨bd3, 0, none⟩) 5 5), (8, .slice (some ⟨bd1, 0, none⟩) 5 5), (6, pv b3), (2, iv 1)] w8 (by kernel_rfl) ?_
   refine J.run 17 K86_5 [(10, iv 0), (9, .slice (some ⟨bd3, 0, none⟩) 5 5), (8, .slice (some ⟨bd1, 0, none⟩) 5 5), (6, pv b3), (2, iv 1)] w8 (by kernel_rfl) ?_
   obtain ⟨p1, hp1, hc1⟩ := (box_ints [a.gM, a.gKg, a.gS, a.gA, a.gK] (S8.nth 1 rfl) rfl 5 rfl).at 0 0 (by omega)
   obtain ⟨p2, hp2, hc2⟩ := (box_ints [b.gM, b.gKg, b.gS, b.gA, b.gK] (S8.nth 0 rfl) rfl 5 rfl).at 0 0 (by omega)
   refine J.drawTail S8 14 Tryz.mixed (by kernel_rfl) (by kernel_rfl) ?_
   intro w9 S9
   refine SL.ok (by decide) (OK.run 29 (.slice (some ⟨bd1, 0, none⟩) 5 5) (by kernel_rfl)) ?_
   refine SL.ok (by decide) (OK.run 30 (iv 0) (by kernel_rfl)) ?_
   refine SL.ok (by decide) (OK.run 31 (.slice (some ⟨bd1, 0, none⟩) 5 5) (by kernel_rfl)) ?_
   refine SL.ok (by decide) (OK.run 32 (iv 0) (by kernel_rfl)) ?_
   refine SL.ok (by decide) (OK.index 33 26 1 (some ⟨bd1, 0, none⟩) ⟨bd1, 0, none⟩ 5 0 0 ⟨bd1, 0, none⟩ (by kernel_rfl) (by kernel_rfl) rfl (by omega) (by omega) (by rfl)) ?_
   refine SL.ok (by decide) (OK.ldBox S9 1 34 3 0 (iv a.gM) (by kernel_rfl) rfl (by kernel_rfl)) ?_
   refine SL.ok (by decide) (OK.run 35 (iv 1) (by kernel_rfl)) ?_
   refine SL.ok (by decide) (OK.run 36 (.slice (some ⟨bd3, 0, none⟩) 5 5) (by kernel_rfl)) ?_
   refine SL.ok (by decide) (OK.run 37 (iv 0) (by kernel_rfl)) ?_
   refine SL.ok (by decide) (OK.index 38 26 1 (some ⟨bd3, 0, none⟩) ⟨bd3, 0, none⟩ 5 0 0 ⟨bd3, 0, none⟩ (by kernel_rfl) (by kernel_rfl) rfl (by omega) (by omega) (by rfl)) ?_
   refine SL.ok (by decide) (OK.ldBox S9 0 39 3 0 (iv b.gM) (by kernel_rfl) rfl (by kernel_rfl)) ?_
   refine SL.ok (by decide) (OK.run 40 (iv (IntKind.wrap .i64 (1 * b.gM))) (by kernel_rfl)) ?_
   refine SL.head (iv (1 * b.gM)) (congrArg (Value.int .i64) (IntWalk.i64_in _ (by omega))) ?_
   refine SL.ok (by decide) (OK.run 41 (iv (IntKind.wrap .i64 (a.gM + (1 * b.gM)))) (by kernel_rfl)) ?_
   refine SL.head (iv (a.gM + (1 * b.gM))) (congrArg (Value.int .i64) (IntWalk.i64_in _ (by omega))) ?_
   refine SL.ok (by decide) (OK.index 42 26 1 (some ⟨bd1, 0, none⟩) ⟨bd1, 0, none⟩ 5 0 0 ⟨bd1, 0, none⟩ (by kernel_rfl) (by kernel_rfl) rfl (by omega) (by omega) (by rfl)) ?_
   refine SL.done ?_
   refine TL.stBox S9 1 3 0 (iv (a.gM + (1 * b.gM))) [iv (a.gM + (1 * b.gM)), iv a.gKg, iv a.gS, iv a.gA, iv a.gK] [box bd3 (untC b) 3, box bd1 [iv (a.gM + (1 * b.gM)), iv a.gKg, iv a.gS, iv a.gA, iv a.gK] 3, box b3 kvV3_1 60, box b2 (untC b) 60, box b1 (untC a) 60] (by kernel_rfl) rfl (by kernel_rfl) (by kernel_rfl) rfl ?_
   intro w10 S10
   refine TL.done (by kernel_rfl) ?_
   refine J.run 0 (rRest K86_5) [(10, iv 0), (9, .slice (some ⟨bd3, 0, none⟩) 5 5), (8, .slice (some ⟨bd1, 0, none⟩) 5 5), (6, pv b3), (2, iv 1)] w10 (by kernel_rfl) ?_
   refine J.run 7 K86_6 [(10, iv 1), (9, .slice (some ⟨bd3, 0, none⟩) 5 5), (8, .slice (some ⟨bd1, 0, none⟩) 5 5), (6, pv b3), (2, iv 1)] w10 (by kernel_rfl) ?_
   refine J.run 10 K86_7 [(10, iv 1), (9, .slice (some ⟨bd3, 0, none⟩) 5 5), (8, .slice (some ⟨bd1, 0, none⟩) 5 5), (6, pv b3), (2, iv 1)] w10 (by kernel_rfl) ?_
   obtain ⟨p3, hp3, hc3⟩ := (box_ints [(a.gM + (1 * b.gM)), a.gKg, a.gS, a.gA, a.gK] (S10.nth 1 rfl) rfl 5 rfl).at 0 1 (by omega)
   obtain ⟨p4, hp4, hc4⟩ := (box_ints [b.gM, b.gKg, b.gS, b.gA, b.gK] (S10.nth 0 rfl) rfl 5 rfl).at 0 1 (by omega)
   refine J.drawTail S10 14 Tryz.mixed (by kernel_rfl) (by kernel_rfl) ?_
   intro w11 S11
   refine SL.ok (by decide) (OK.run 29 (.slice (some ⟨bd1, 0, none⟩) 5 5) (by kernel_rfl)) ?_
   refine SL.ok (by decide) (OK.run 30 (iv 1) (by kernel_rfl)) ?_
   refine SL.ok (by decide) (OK.run 31 (.slice (some ⟨bd1, 0, none⟩) 5 5) (by kernel_rfl)) ?_
   refine SL.ok (by decide) (OK.run 32 (iv 1) (by kernel_rfl)) ?_
   refine SL.ok (by decide) (OK.index 33 26 1 (some ⟨bd1, 0, none⟩) ⟨bd1, 0, none⟩ 5 1 1 ⟨bd1, 1, none⟩ (by kernel_rfl) (by kernel_rfl) rfl (by omega) (by omega) (by rfl)) ?_
   refine SL.ok (by decide) (OK.ldBox S11 1 34 3 1 (iv a.gKg) (by kernel_rfl) rfl (by kernel_rfl)) ?_
   refine SL.ok (by decide) (OK.run 35 (iv 1) (by kernel_rfl)) ?_
   refine SL.ok (by decide) (OK.run 36 (.slice (some ⟨bd3, 0, none⟩) 5 5) (by kernel_rfl)) ?_
   refine SL.ok (by decide) (OK.run 37 (iv 1) (by kernel_rfl)) ?_
   refine SL.ok (by decide) (OK.index 38 26 1 (some ⟨bd3, 0, none⟩) ⟨bd3, 0, none⟩ 5 1 1 ⟨bd3, 1, none⟩ (by kernel_rfl) (by kernel_rfl) rfl (by omega) (by omega) (by rfl)) ?_
   refine SL.ok (by decide) (OK.ldBox S11 0 39 3 1 (iv b.gKg) (by kernel_rfl) rfl (by kernel_rfl)) ?_
   refine SL.ok (by decide) (OK.run 40 (iv (IntKind.wrap .i64 (1 * b.gKg))) (by kernel_rfl)) ?_
   refine SL.head (iv (1 * b.gKg)) (congrArg (Value.int .i64) (IntWalk.i64_in _ (by omega))) ?_
   refine SL.ok (by decide) (OK.run 41 (iv (IntKind.wrap .i64 (a.gKg + (1 * b.gKg)))) (by kernel_rfl)) ?_
   refine SL.head (iv (a.gKg + (1 * b.gKg))) (congrArg (Value.int .i64) (IntWalk.i64_in _ (by omega))) ?_
   refine SL.ok (by decide) (OK.index 42 26 1 (some ⟨bd1, 0, none⟩) ⟨bd1, 0, none⟩ 5 1 1 ⟨bd1, 1, none⟩ (by kernel_rfl) (by kernel_rfl) rfl (by omega) (by omega) (by rfl)) ?_
   refine SL.done ?_
   refine TL.stBox S11 1 3 1 (iv (a.gKg + (1 * b.gKg))) [iv (a.gM + (1 * b.gM)), iv (a.gKg + (1 * b.gKg)), iv a.gS, iv a.gA, iv a.gK] [box bd3 (untC b) 3, box bd1 [iv (a.gM + (1 * b.gM)), iv (a.gKg + (1 * b.gKg)), iv a.gS, iv a.gA, iv a.gK] 3, box b3 kvV3_1 60, box b2 (untC b) 60, box b1 (untC a) 60] (by kernel_rfl) rfl (by kernel_rfl) (by kernel_rfl) rfl ?_
   intro w12 S12
   refine TL.done (by kernel_rfl) ?_
   refine J.run 0 (rRest K86_7) [(10, iv 1), (9, .slice (some ⟨bd3, 0, none⟩) 5 5), (8, .slice (some ⟨bd1, 0, none⟩) 5 5), (6, pv b3), (2, iv 1)] w12 (by kernel_rfl) ?_
   refine J.run 7 K86_8 [(10, iv 2), (9, .slice (some ⟨bd3, 0, none⟩) 5 5), (8, .slice (some ⟨bd1, 0, none⟩) 5 5), (6, pv b3), (2, iv 1)] w12 (by kernel_rfl) ?_
   refine J.run 10 K86_9 [(10, iv 2), (9, .slice (some ⟨bd3, 0, none⟩) 5 5), (8, .slice (some ⟨bd1, 0, none⟩) 5 5), (6, pv b3), (2, iv 1)] w12 (by kernel_rfl) ?_
   obtain ⟨p5, hp5, hc5⟩ := (box_ints [(a.gM + (1 * b.gM)), (a.gKg + (1 * b.gKg)), a.gS, a.gA, a.gK] (S12.nth 1 rfl) rfl 5 rfl).at 0 2 (by omega)
   obtain ⟨p6, hp6, hc6⟩ := (box_ints [b.gM, b.gKg, b.gS, b.gA, b.gK] (S12.nth 0 rfl) rfl 5 rfl).at 0 2 (by omega)
   refine J.drawTail S12 14 Tryz.mixed (by kernel_rfl) (by kernel_rfl) ?_
   intro w13 S13
   refine SL.ok (by decide) (OK.run 29 (.slice (some ⟨bd1, 0, none⟩) 5 5) (by kernel_rfl)) ?_
   refine SL.ok (by decide) (OK.run 30 (iv 2) (by kernel_rfl)) ?_
   refine SL.ok (by decide) (OK.run 31 (.slice (some ⟨bd1, 0, none⟩) 5 5) (by kernel_rfl)) ?_
   refine SL.ok (by decide) (OK.run 32 (iv 2) (by kernel_rfl)) ?_
   refine SL.ok (by decide) (OK.index 33 26 1 (some ⟨bd1, 0, none⟩) ⟨bd1, 0, none⟩ 5 2 2 ⟨bd1, 2, none⟩ (by kernel_rfl) (by kernel_rfl) rfl (by omega) (by omega) (by rfl)) ?_
   refine SL.ok (by decide) (OK.ldBox S13 1 34 3 2 (iv a.gS) (by kernel_rfl) rfl (by kernel_rfl)) ?_
   refine SL.ok (by decide) (OK.run 35 (iv 1) (by kernel_rfl)) ?_
   refine SL.ok (by decide) (OK.run 36 (.slice (some ⟨bd3, 0, none⟩) 5 5) (by kernel_rfl)) ?_
   refine SL.ok (by decide) (OK.run 37 (iv 2) (by kernel_rfl)) ?_
   refine SL.ok (by decide) (OK.index 38 26 1 (some ⟨bd3, 0, none⟩) ⟨bd3, 0, none⟩ 5 2 2 ⟨bd3, 2, none⟩ (by kernel_rfl) (by kernel_rfl) rfl (by omega) (by omega) (by rfl)) ?_
   refine SL.ok (by decide) (OK.ldBox S13 0 39 3 2 (iv b.gS) (by kernel_rfl) rfl (by kernel_rfl)) ?_
   refine SL.ok (by decide) (OK.run 40 (iv (IntKind.wrap .i64 (1 * b.gS))) (by kernel_rfl)) ?_
   refine SL.head (iv (1 * b.gS)) (congrArg (Value.int .i64) (IntWalk.i64_in _ (by omega))) ?_
   refine SL.ok (by decide) (OK.run 41 (iv (IntKind.wrap .i64 (a.gS + (1 * b.gS)))) (by kernel_rfl)) ?_
   refine SL.head (iv (a.gS + (1 * b.gS))) (congrArg (Value.int .i64) (IntWalk.i64_in _ (by omega))) ?_
   refine SL.ok (by decide) (OK.index 42 26 1 (some ⟨bd1, 0, none⟩) ⟨bd1, 0, none⟩ 5 2 2 ⟨bd1, 2, none⟩ (by kernel_rfl) (by kernel_rfl) rfl (by omega) (by omega) (by rfl)) ?_
   refine SL.done ?_
   refine TL.stBox S13 1 3 2 (iv (a.gS + (1 * b.gS))) [iv (a.gM + (1 * b.gM)), iv (a.gKg + (1 * b.gKg)), iv (a.gS + (1 * b.gS)), iv a.gA, iv a.gK] [box bd3 (untC b) 3, box bd1 [iv (a.gM + (1 * b.gM)), iv (a.gKg + (1 * b.gKg)), iv (a.gS + (1 * b.gS)), iv a.gA, iv a.gK] 3, box b3 kvV3_1 60, box b2 (untC b) 60, box b1 (untC a) 60] (by kernel_rfl) rfl (by kernel_rfl) (by kernel_rfl) rfl ?_
   intro w14 S14
   refine TL.done (by kernel_rfl) ?_
   refine J.run 0 (rRest K86_9) [(10, iv 2), (9, .slice (some ⟨bd3, 0, none⟩) 5 5), (8, .slice (some ⟨bd1, 0, none⟩) 5 5), (6, pv b3), (2, iv 1)] w14 (by kernel_rfl) ?_
   refine J.run 7 K86_10 [(10, iv 3), (9, .slice (some ⟨bd3, 0, none⟩) 5 5), (8, .slice (some ⟨bd1, 0, none⟩) 5 5), (6, pv b3), (2, iv 1)] w14 (by kernel_rfl) ?_
   refine J.run 10 K86_11 [(10, iv 3), (9, .slice (some ⟨bd3, 0, none⟩) 5 5), (8, .slice (some ⟨bd1, 0, none⟩) 5 5), (6, pv b3), (2, iv 1)] w14 (by kernel_rfl) ?_
   obtain ⟨p7, hp7, hc7⟩ := (box_ints [(a.gM + (1 * b.gM)), (a.gKg + (1 * b.gKg)), (a.gS + (1 * b.gS)), a.gA, a.gK] (S14.nth 1 rfl) rfl 5 rfl).at 0 3 (by omega)
   obtain ⟨p8, hp8, hc8⟩ := (box_ints [b.gM, b.gKg, b.gS, b.gA, b.gK] (S14.nth 0 rfl) rfl 5 rfl).at 0 3 (by omega)
   refine J.drawTail S14 14 Tryz.mixed (by kernel_rfl) (by kernel_rfl) ?_
   intro w15 S15
   refine SL.ok (by decide) (OK.run 29 (.slice (some ⟨bd1, 0, none⟩) 5 5) (by kernel_rfl)) ?_
   refine SL.ok (by decide) (OK.run 30 (iv 3) (by kernel_rfl)) ?_
   refine SL.ok (by decide) (OK.run 31 (.slice (some ⟨bd1, 0, none⟩) 5 5) (by kernel_rfl)) ?_
   refine SL.ok (by decide) (OK.run 32 (iv 3) (by kernel_rfl)) ?_
   refine SL.ok (by decide) (OK.index 33 26 1 (some ⟨bd1, 0, none⟩) ⟨bd1, 0, none⟩ 5 3 3 ⟨bd1, 3, none⟩ (by kernel_rfl) (by kernel_rfl) rfl (by omega) (by omega) (by rfl)) ?_
   refine SL.ok (by decide) (OK.ldBox S15 1 34 3 3 (iv a.gA) (by kernel_rfl) rfl (by kernel_rfl)) ?_
   refine SL.ok (by decide) (OK.run 35 (iv 1) (by kernel_rfl)) ?_
   refine SL.ok (by decide) (OK.run 36 (.slice (some ⟨bd3, 0, none⟩) 5 5) (by kernel_rfl)) ?_
   refine SL.ok (by decide) (OK.run 37 (iv 3) (by kernel_rfl)) ?_
   refine SL.ok (by decide) (OK.index 38 26 1 (some ⟨bd3, 0, none⟩) ⟨bd3, 0, none⟩ 5 3 3 ⟨bd3, 3, none⟩ (by kernel_rfl) (by kernel_rfl) rfl (by omega) (by omega) (by rfl)) ?_
   refine SL.ok (by decide) (OK.ldBox S15 0 39 3 3 (iv b.gA) (by kernel_rfl) rfl (by kernel_rfl)) ?_
   refine SL.ok (by decide) (OK.run 40 (iv (IntKind.wrap .i64 (1 * b.gA))) (by kernel_rfl)) ?_
   refine SL.head (iv (1 * b.gA)) (congrArg (Value.int .i64) (IntWalk.i64_in _ (by omega))) ?_
   refine SL.ok (by decide) (OK.run 41 (iv (IntKind.wrap .i64 (a.gA + (1 * b.gA)))) (by kernel_rfl)) ?_
   refine SL.head (iv (a.gA + (1 * b.gA))) (congrArg (Value.int .i64) (IntWalk.i64_in _ (by omega))) ?_
   refine SL.ok (by decide) (OK.index 42 26 1 (some ⟨bd1, 0, none⟩) ⟨bd1, 0, none⟩ 5 3 3 ⟨bd1, 3, none⟩ (by kernel_rfl) (by kernel_rfl) rfl (by omega) (by omega) (by rfl)) ?_
   refine SL.done ?_
   refine TL.stBox S15 1 3 3 (iv (a.gA + (1 * b.gA))) [iv (a.gM + (1 * b.gM)), iv (a.gKg + (1 * b.gKg)), iv (a.gS + (1 * b.gS)), iv (a.gA + (1 * b.gA)), iv a.gK] [box bd3 (untC b) 3, box bd1 [iv (a.gM + (1 * b.gM)), iv (a.gKg + (1 * b.gKg)), iv (a.gS + (1 * b.gS)), iv (a.gA + (1 * b.gA)), iv a.gK] 3, box b3 kvV3_1 60, box b2 (untC b) 60, box b1 (untC a) 60] (by kernel_rfl) rfl (by kernel_rfl) (by kernel_rfl) rfl ?_
   intro w16 S16
   refine TL.done (by kernel_rfl) ?_
   refine J.run 0 (rRest K86_11) [(10, iv 3), (9, .slice (some ⟨bd3, 0, none⟩) 5 5), (8, .slice (some ⟨bd1, 0, none⟩) 5 5), (6, pv b3), (2, iv 1)] w16 (by kernel_rfl) ?_
   refine J.run 7 K86_12 [(10, iv 4), (9, .slice (some ⟨bd3, 0, none⟩) 5 5), (8, .slice (some ⟨bd1, 0, none⟩) 5 5), (6, pv b3), (2, iv 1)] w16 (by kernel_rfl) ?_
   refine J.run 10 K86_13 [(10, iv 4), (9, .slice (some ⟨bd3, 0, none⟩) 5 5), (8, .slice (some ⟨bd1, 0, none⟩) 5 5), (6, pv b3), (2, iv 1)] w16 (by kernel_rfl) ?_
   obtain ⟨p9, hp9, hc9⟩ := (box_ints [(a.gM + (1 * b.gM)), (a.gKg + (1 * b.gKg)), (a.gS + (1 * b.gS)), (a.gA + (1 * b.gA)), a.gK] (S16.nth 1 rfl) rfl 5 rfl).at 0 4 (by omega)
   obtain ⟨p10, hp10, hc10⟩ := (box_ints [b.gM, b.gKg, b.gS, b.gA, b.gK] (S16.nth 0 rfl) rfl 5 rfl).at 0 4 (by omega)
   refine J.drawTail S16 14 Tryz.mixed (by kernel_rfl) (by kernel_rfl) ?_
   intro w17 S17
   refine SL.ok (by decide) (OK.run 29 (.slice (some ⟨bd1, 0, none⟩) 5 5) (by kernel_rfl)) ?_
   refine SL.ok (by decide) (OK.run 30 (iv 4) (by kernel_rfl)) ?_
   refine SL.ok (by decide) (OK.run 31 (.slice (some ⟨bd1, 0, none⟩) 5 5) (by kernel_rfl)) ?_
   refine SL.ok (by decide) (OK.run 32 (iv 4) (by kernel_rfl)) ?_
   refine SL.ok (by decide) (OK.index 33 26 1 (some ⟨bd1, 0, none⟩) ⟨bd1, 0, none⟩ 5 4 4 ⟨bd1, 4, none⟩ (by kernel_rfl) (by kernel_rfl) rfl (by omega) (by omega) (by rfl)) ?_
   refine SL.ok (by decide) (OK.ldBox S17 1 34 3 4 (iv a.gK) (by kernel_rfl) rfl (by kernel_rfl)) ?_
   refine SL.ok (by decide) (OK.run 35 (iv 1) (by kernel_rfl)) ?_
   refine SL.ok (by decide) (OK.run 36 (.slice (some ⟨bd3, 0, none⟩) 5 5) (by kernel_rfl)) ?_
   refine SL.ok (by decide) (OK.run 37 (iv 4) (by kernel_rfl)) ?_
   refine SL.ok (by decide) (OK.index 38 26 1 (some ⟨bd3, 0, none⟩) ⟨bd3, 0, none⟩ 5 4 4 ⟨bd3, 4, none⟩ (by kernel_rfl) (by kernel_rfl) rfl (by omega) (by omega) (by rfl)) ?_
   refine SL.ok (by decide) (OK.ldBox S17 0 39 3 4 (iv b.gK) (by kernel_rfl) rfl (by kernel_rfl)) ?_
   refine SL.ok (by decide) (OK.run 40 (iv (IntKind.wrap .i64 (1 * b.gK))) (by kernel_rfl)) ?_
   refine SL.head (iv (1 * b.gK)) (congrArg (Value.int .i64) (IntWalk.i64_in _ (by omega))) ?_
   refine SL.ok (by decide) (OK.run 41 (iv (IntKind.wrap .i64 (a.gK + (1 * b.gK)))) (by kernel_rfl)) ?_
   refine SL.head (iv (a.gK + (1 * b.gK))) (congrArg (Value.int .i64) (IntWalk.i64_in _ (by omega))) ?_
   refine SL.ok (by decide) (OK.index 42 26 1 (some ⟨bd1, 0, none⟩) ⟨bd1, 0, none⟩ 5 4 4 ⟨bd1, 4, none⟩ (by kernel_rfl) (by kernel_rfl) rfl (by omega) (by omega) (by rfl)) ?_
   refine SL.done ?_
   refine TL.stBox S17 1 3 4 (iv (a.gK + (1 * b.gK))) [iv (a.gM + (1 * b.gM)), iv (a.gKg + (1 * b.gKg)), iv (a.gS + (1 * b.gS)), iv (a.gA + (1 * b.gA)), iv (a.gK + (1 * b.gK))] [box bd3 (untC b) 3, box bd1 [iv (a.gM + (1 * b.gM)), iv (a.gKg + (1 * b.gKg)), iv (a.gS + (1 * b.gS)), iv (a.gA + (1 * b.gA)), iv (a.gK + (1 * b.gK))] 3, box b3 kvV3_1 60, box b2 (untC b) 60, box b1 (untC a) 60] (by kernel_rfl) rfl (by kernel_rfl) (by kernel_rfl) rfl ?_
   intro w18 S18
   refine TL.done (by kernel_rfl) ?_
   refine J.run 0 (rRest K86_13) [(10, iv 4), (9, .slice (some ⟨bd3, 0, none⟩) 5 5), (8, .slice (some ⟨bd1, 0, none⟩) 5 5), (6, pv b3), (2, iv 1)] w18 (by kernel_rfl) ?_
   refine J.run 7 K86_14 [(10, iv 5), (9, .slice (some ⟨bd3, 0, none⟩) 5 5), (8, .slice (some ⟨bd1, 0, none⟩) 5 5), (6, pv b3), (2, iv 1)] w18 (by kernel_rfl) ?_
   refine J.run 11 K86_15 [(43, .slice (some ⟨bd1, 0, none⟩) 5 5), (6, pv b3)] w18 (by kernel_rfl) ?_
   refine J.callF 44 105 #[.slice (some ⟨bd1, 0, none⟩) 5 5] hb105 (by kernel_rfl) (of_any (some ⟨bd1, 0, none⟩) 5 5 ([(a.gM + (1 * b.gM)), (a.gKg + (1 * b.gKg)), (a.gS + (1 * b.gS)), (a.gA + (1 * b.gA)), (a.gK + (1 * b.gK))]) _ ((box_ints [(a.gM + (1 * b.gM)), (a.gKg + (1 * b.gKg)), (a.gS + (1 * b.gS)), (a.gA + (1 * b.gA)), (a.gK + (1 * b.gK))] (S18.nth 1 rfl) rfl 5 rfl)) (by omega)) ?_
   rintro _ w19 ⟨rfl, T5⟩
   have S19 : Sep w [box bd3 (untC b) 3, box bd1 [iv (a.gM + (1 * b.gM)), iv (a.gKg + (1 * b.gKg)), iv (a.gS + (1 * b.gS)), iv (a.gA + (1 * b.gA)), iv (a.gK + (1 * b.gK))] 3, box b3 kvV3_1 60, box b2 (untC b) 60, box b1 (untC a) 60] w19 := S18.trans T5
   clear T5 S18
   refine J.head (.agg #[iv (a.gM + (1 * b.gM)), iv (a.gKg + (1 * b.gKg)), iv (a.gS + (1 * b.gS)), iv (a.gA + (1 * b.gA)), iv (a.gK + (1 * b.gK))]) rfl ?_
   refine J.new S19 11 kvV3_1 60 (by kernel_rfl) ?_
   intro b4 w20 S20
   refine J.stBox S20 0 60 0 (.agg #[iv (a.gM + (1 * b.gM)), iv (a.gKg + (1 * b.gKg)), iv (a.gS + (1 * b.gS)), iv (a.gA + (1 * b.gA)), iv (a.gK + (1 * b.gK))]) [iv (a.gM + (1 * b.gM)), iv (a.gKg + (1 * b.gKg)), iv (a.gS + (1 * b.gS)), iv (a.gA + (1 * b.gA)), iv (a.gK + (1 * b.gK))] [box b4 [iv (a.gM + (1 * b.gM)), iv (a.gKg + (1 * b.gKg)), iv (a.gS + (1 * b.gS)), iv (a.gA + (1 * b.gA)), iv (a.gK + (1 * b.gK))] 60, box bd3 (untC b) 3, box bd1 [iv (a.gM + (1 * b.gM)), iv (a.gKg + (1 * b.gKg)), iv (a.gS + (1 * b.gS)), iv (a.gA + (1 * b.gA)), iv (a.gK + (1 * b.gK))] 3, box b3 kvV3_1 60, box b2 (untC b) 60, box b1 (untC a) 60] (by kernel_rfl) rfl (by kernel_rfl) (by kernel_rfl) rfl ?_
   intro w21 S21
   refine J.run 4 K86_16 [(11, pv b4), (6, pv b3)] w21 (by kernel_rfl) ?_
   refine J.ok (OK.ldBox S21 0 45 60 0 (.agg #[iv (a.gM + (1 * b.gM)), iv (a.gKg + (1 * b.gKg)), iv (a.gS + (1 * b.gS)), iv (a.gA + (1 * b.gA)), iv (a.gK + (1 * b.gK))]) (by kernel_rfl) rfl (by kernel_rfl)) ?_
   refine J.callF 46 103 #[.agg #[iv (a.gM + (1 * b.gM)), iv (a.gKg + (1 * b.gKg)), iv (a.gS + (1 * b.gS)), iv (a.gA + (1 * b.gA)), iv (a.gK + (1 * b.gK))]] hb103 (by kernel_rfl) (ruvalid_any (⟨a.gM + (1 * b.gM), a.gKg + (1 * b.gKg), a.gS + (1 * b.gS), a.gA + (1 * b.gA), a.gK + (1 * b.gK)⟩ : Unt) _) ?_
   rintro _ w22 ⟨rfl, T6⟩
   have S22 : Sep w [box b4 [iv (a.gM + (1 * b.gM)), iv (a.gKg + (1 * b.gKg)), iv (a.gS + (1 * b.gS)), iv (a.gA + (1 * b.gA)), iv (a.gK + (1 * b.gK))] 60, box bd3 (untC b) 3, box bd1 [iv (a.gM + (1 * b.gM)), iv (a.gKg + (1 * b.gKg)), iv (a.gS + (1 * b.gS)), iv (a.gA + (1 * b.gA)), iv (a.gK + (1 * b.gK))] 3, box b3 kvV3_1 60, box b2 (untC b) 60, box b1 (untC a) 60] w22 := S21.trans T6
   clear T6 S21
   refine J.run 2 K86_17 [(47, .bool (!(unB (⟨a.gM + (1 * b.gM), a.gKg + (1 * b.gKg), a.gS + (1 * b.gS), a.gA + (1 * b.gA), a.gK + (1 * b.gK)⟩ : Unt)))), (11, pv b4), (6, pv b3)] w22 (by kernel_rfl) ?_
   rcases Bool.eq_false_or_eq_true (unB (⟨a.gM + (1 * b.gM), a.gKg + (1 * b.gKg), a.gS + (1 * b.gS), a.gA + (1 * b.gA), a.gK + (1 * b.gK)⟩ : Unt)) with fk3 | fk3
   ·skip
    refine J.head (.bool false) (congrArg Value.bool (by rw [fk3]; rfl)) ?_
    have fb3 := unB_iff.1 fk3
    try dsimp only at fb3
    refine J.run 4 K86_18 [(11, pv b4), (6, pv b3)] w22 (by kernel_rfl) ?_
    refine J.ok (OK.ldBox S22 0 49 60 0 (.agg #[iv (a.gM + (1 * b.gM)), iv (a.gKg + (1 * b.gKg)), iv (a.gS + (1 * b.gS)), iv (a.gA + (1 * b.gA)), iv (a.gK + (1 * b.gK))]) (by kernel_rfl) rfl (by kernel_rfl)) ?_
    refine J.stBox S22 3 60 0 (.agg #[iv (a.gM + (1 * b.gM)), iv (a.gKg + (1 * b.gKg)), iv (a.gS + (1 * b.gS)), iv (a.gA + (1 * b.gA)), iv (a.gK + (1 * b.gK))]) [iv (a.gM + (1 * b.gM)), iv (a.gKg + (1 * b.gKg)), iv (a.gS + (1 * b.gS)), iv (a.gA + (1 * b.gA)), iv (a.gK + (1 * b.gK))] [box b4 [iv (a.gM + (1 * b.gM)), iv (a.gKg + (1 * b.gKg)), iv (a.gS + (1 * b.gS)), iv (a.gA + (1 * b.gA)), iv (a.gK + (1 * b.gK))] 60, box bd3 (untC b) 3, box bd1 [iv (a.gM + (1 * b.gM)), iv (a.gKg + (1 * b.gKg)), iv (a.gS + (1 * b.gS)), iv (a.gA + (1 * b.gA)), iv (a.gK + (1 * b.gK))] 3, box b3 [iv (a.gM + (1 * b.gM)), iv (a.gKg + (1 * b.gKg)), iv (a.gS + (1 * b.gS)), iv (a.gA + (1 * b.gA)), iv (a.gK + (1 * b.gK))] 60, box b2 (untC b) 60, box b1 (untC a) 60] (by kernel_rfl) rfl (by kernel_rfl) (by kernel_rfl) rfl ?_
    intro w23 S23
    refine J.run 2 K86_19 [(7, iv 0), (6, pv b3)] w23 (by kernel_rfl) ?_
    refine J.ret Tryz.f86 [.agg #[iv (a.gM + (1 * b.gM)), iv (a.gKg + (1 * b.gKg)), iv (a.gS + (1 * b.gS)), iv (a.gA + (1 * b.gA)), iv (a.gK + (1 * b.gK))], iv 0] Tryz.func86 ⟨⟨⟨b3, 0, none⟩, by kernel_rfl, ldV_run (S23.nth 3 rfl) (by kernel_rfl)⟩, by kernel_rfl, trivial⟩ ?_
    refine hR _ _ ?_
    obtain ⟨e1, e2⟩ := un_in (a := a) (b := b) (s := 1) fk1 fk2 fk3
    exact ⟨by rw [e1, e2]; rfl, S23.nil⟩
   ·skip
    refine J.head (.bool true) (congrArg Value.bool (by rw [fk3]; rfl)) ?_
    have fb4 := mt unB_iff.2 (by rw [fk3]; decide)
    try dsimp only at fb4
    refine J.run 4 K86_20 [(48, .agg kvV3_2), (6, pv b3)] w22 (by kernel_rfl) ?_
    refine J.stBox S22 3 60 0 (.agg kvV3_2) kvV3_1 [box b4 [iv (a.gM + (1 * b.gM)), iv (a.gKg + (1 * b.gKg)), iv (a.gS + (1 * b.gS)), iv (a.gA + (1 * b.gA)), iv (a.gK + (1 * b.gK))] 60, box bd3 (untC b) 3, box bd1 [iv (a.gM + (1 * b.gM)), iv (a.gKg + (1 * b.gKg)), iv (a.gS + (1 * b.gS)), iv (a.gA + (1 * b.gA)), iv (a.gK + (1 * b.gK))] 3, box b3 kvV3_1 60, box b2 (untC b) 60, box b1 (untC a) 60] (by kernel_rfl) rfl (by kernel_rfl) (by kernel_rfl) rfl ?_
    intro w24 S24
    refine J.run 2 K86_21 [(7, iv 2), (6, pv b3)] w24 (by kernel_rfl) ?_
    refine J.ret Tryz.f86 [.agg kvV3_2, iv 2] Tryz.func86 ⟨⟨⟨b3, 0, none⟩, by kernel_rfl, ldV_run (S24.nth 3 rfl) (by kernel_rfl)⟩, by kernel_rfl, trivial⟩ ?_
    refine hR _ _ ?_
    obtain ⟨e1, e2⟩ := un_out (a := a) (b := b) (s := 1) fk1 fk2 fk3
    exact ⟨by rw [e1, e2]; rfl, S24.nil⟩
  ·skip
   refine J.head (.bool true) (congrArg Value.bool (by rw [fk2]; rfl)) ?_
   have fb5 := mt unB_iff.2 (by rw [fk2]; decide)
   try dsimp only at fb5
   refine J.run 4 K86_22 [(20, .agg kvV3_2), (6, pv b3)] w5 (by kernel_rfl) ?_
   refine J.stBox S5 0 60 0 (.agg kvV3_2) kvV3_1 [box b3 kvV3_1 60, box b2 (untC b) 60, box b1 (untC a) 60] (by kernel_rfl) rfl (by kernel_rfl) (by kernel_rfl) rfl ?_
   intro w25 S25
   refine J.run 2 K86_23 [(7, iv 1), (6, pv b3)] w25 (by kernel_rfl) ?_
   refine J.ret Tryz.f86 [.agg kvV3_2, iv 1] Tryz.func86 ⟨⟨⟨b3, 0, none⟩, by kernel_rfl, ldV_run (S25.nth 0 rfl) (by kernel_rfl)⟩, by kernel_rfl, trivial⟩ ?_
   refine hR _ _ ?_
   obtain ⟨e1, e2⟩ := un_bad (a := a) (b := b) (s := 1) (by first | exact .inl fk2 | exact .inr fk2)
   exact ⟨by rw [e1, e2]; rfl, S25.nil⟩
 ·skip
  refine J.head (.bool true) (congrArg Value.bool (by rw [fk1]; rfl)) ?_
  have fb6 := mt unB_iff.2 (by rw [fk1]; decide)
  try dsimp only at fb6
  refine J.run 9 K86_24 [(20, .agg kvV3_2), (6, pv b3)] w4 (by kernel_rfl) ?_
  refine J.stBox S4 0 60 0 (.agg kvV3_2) kvV3_1 [box b3 kvV3_1 60, box b2 (untC b) 60, box b1 (untC a) 60] (by kernel_rfl) rfl (by kernel_rfl) (by kernel_rfl) rfl ?_
  intro w26 S26
  refine J.run 2 K86_25 [(7, iv 1), (6, pv b3)] w26 (by kernel_rfl) ?_
  refine J.ret Tryz.f86 [.agg kvV3_2, iv 1] Tryz.func86 ⟨⟨⟨b3, 0, none⟩, by kernel_rfl, ldV_run (S26.nth 0 rfl) (by kernel_rfl)⟩, by kernel_rfl, trivial⟩ ?_
  refine hR _ _ ?_
  obtain ⟨e1, e2⟩ := un_bad (a := a) (b := b) (s := 1) (by first | exact .inl fk1 | exact .inr fk1)
  exact ⟨by rw [e1, e2]; rfl, S26.nil⟩

end Go.Proofs.YthfpejhonhaggaaGreatDoor

