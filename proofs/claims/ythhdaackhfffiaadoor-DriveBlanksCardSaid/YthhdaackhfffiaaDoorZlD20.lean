/- Walks of functions of this seat, printed by a program over the engine. Conditions: as each theorem says. -/
import Derived.Test.YthhdaackhfffiaaDoorZlD15
namespace Go.Proofs.YthhdaackhfffiaaDoor
open Go.Eng Go.RowKit
set_option linter.unusedSimpArgs false
set_option linter.unusedVariables false
def awL : List Dr := [⟨0, 0, 0, 0, 0⟩, ⟨1000, 300, 0, 3, -200⟩]
theorem par_lit : parF (⟨#[97, 116, 32, 48, 32, 112, 101, 100, 97, 108, 32, 48, 32, 98, 114, 97, 107, 101, 32, 48, 32, 103, 101, 97, 114, 32, 48, 32, 108, 111, 97, 100, 32, 48, 10, 97, 116, 32, 49, 48, 48, 48, 32, 112, 101, 100, 97, 108, 32, 51, 48, 48, 32, 98, 114, 97, 107, 101, 32, 48, 32, 103, 101, 97, 114, 32, 51, 32, 108, 111, 97, 100, 32, 45, 50, 48, 48, 10]⟩ : ByteArray) = ⟨awL, 0, 0, 0⟩ := by kernel_rfl
theorem parse_lit (w : World) (hW : TabW w) : Ret Tryd.prog 18 #[.string (⟨#[97, 116, 32, 48, 32, 112, 101, 100, 97, 108, 32, 48, 32, 98, 114, 97, 107, 101, 32, 48, 32, 103, 101, 97, 114, 32, 48, 32, 108, 111, 97, 100, 32, 48, 10, 97, 116, 32, 49, 48, 48, 48, 32, 112, 101, 100, 97, 108, 32, 51, 48, 48, 32, 98, 114, 97, 107, 101, 32, 48, 32, 103, 101, 97, 114, 32, 51, 32, 108, 111, 97, 100, 32, 45, 50, 48, 48, 10]⟩ : ByteArray)] w (fun v w' => ∃ a cap, v = .tuple #[.slice a awL.length cap, .agg #[iv 0, iv 0], iv 0] ∧ Sep w [rowOf drE a cap 27 5 awL] w') := by
  have h := parse_any (⟨#[97, 116, 32, 48, 32, 112, 101, 100, 97, 108, 32, 48, 32, 98, 114, 97, 107, 101, 32, 48, 32, 103, 101, 97, 114, 32, 48, 32, 108, 111, 97, 100, 32, 48, 10, 97, 116, 32, 49, 48, 48, 48, 32, 112, 101, 100, 97, 108, 32, 51, 48, 48, 32, 98, 114, 97, 107, 101, 32, 48, 32, 103, 101, 97, 114, 32, 51, 32, 108, 111, 97, 100, 32, 45, 50, 48, 48, 10]⟩ : ByteArray) w (by decide) hW
  rw [par_lit] at h
  exact h

theorem hb8 : HasBody Tryd.prog 8 := fun _ _ => by kernel_rfl
noncomputable def K8_0 : List Item := adv 6 [] (bodyOf Tryd.f8)
noncomputable def K8_1 : List Item := adv 4 [] (popK K8_0)
noncomputable def K8_2 : List Item := adv 1 [] (popK K8_1)
noncomputable def K8_3 : List Item := adv 5 [] (popK K8_2)
noncomputable def K8_4 : List Item := adv 3 [] (popK K8_3)
noncomputable def K8_5 : List Item := adv 5 [] (popK (popK K8_4))
noncomputable def K8_6 : List Item := adv 3 [] (popK K8_5)
noncomputable def K8_7 : List Item := adv 11 [] (popK (popK K8_6))
noncomputable def K8_8 : List Item := adv 4 [] K8_7
noncomputable def K8_9 : List Item := adv 1 [] (popK K8_8)
noncomputable def K8_10 : List Item := adv 2 [] (popK K8_9)
noncomputable def K8_11 : List Item := adv 1 [] (popK K8_10)
noncomputable def K8_12 : List Item := adv 3 [] (popK K8_11)
set_option maxRecDepth 20000 in
set_option maxHeartbeats 20000000 in
theorem awake_any  (w : World) (hW : TabW w) : Ret Tryd.prog 8 #[] w (fun v w' => v = .bool true ∧ Sep w [] w') := by
 have S0 := Sep.refl w
 refine Ret.named fun R hR => ?_
 refine Ret.of_J (N := 43) [] Tryd.func8 rfl rfl (Nat.le_of_ble_eq_true (by kernel_rfl)) (by kernel_rfl) ?_
 have hawl : awL.length = 2 := rfl
 refine J.run 6 K8_0 [] w (by kernel_rfl) ?_
 refine J.callF 9 18 #[.string ⟨#[97, 116, 32, 48, 32, 112, 101, 100, 97, 108, 32, 48, 32, 98, 114, 97, 107, 101, 32, 48, 32, 103, 101, 97, 114, 32, 48, 32, 108, 111, 97, 100, 32, 48, 10, 97, 116, 32, 49, 48, 48, 48, 32, 112, 101, 100, 97, 108, 32, 51, 48, 48, 32, 98, 114, 97, 107, 101, 32, 48, 32, 103, 101, 97, 114, 32, 51, 32, 108, 111, 97, 100, 32, 45, 50, 48, 48, 10]⟩] hb18 (by kernel_rfl) (parse_lit  _ (tabW_sep hW S0)) ?_
 rintro _ w1 ⟨ra1, rc1, rfl, T1⟩
 have S1 : Sep w [rowOf drE ra1 rc1 27 5 awL] w1 := S0.trans T1
 clear T1
 refine J.run 4 K8_1 [(12, iv 0), (11, .agg #[iv 0, iv 0]), (10, .slice ra1 awL.length rc1)] w1 (by kernel_rfl) ?_
 refine J.new S1 2 [iv 0, iv 0] 39 (by kernel_rfl) ?_
 intro b1 w2 S2
 refine J.run 1 K8_2 [(1, .slice ra1 awL.length rc1), (2, .pointer (some ⟨b1, 0, none⟩)), (12, iv 0), (11, .agg #[iv 0, iv 0])] w2 (by kernel_rfl) ?_
 refine J.stBox S2 0 39 0 (.agg #[iv 0, iv 0]) [iv 0, iv 0] [box b1 [iv 0, iv 0] 39, rowOf drE ra1 rc1 27 5 awL] (by kernel_rfl) rfl (by kernel_rfl) (by kernel_rfl) rfl ?_
 intro w3 S3
 refine J.run 5 K8_3 [(14, .slice ra1 awL.length rc1), (3, iv 0), (1, .slice ra1 awL.length rc1)] w3 (by kernel_rfl) ?_
 refine J.callF 15 10 #[.slice ra1 awL.length rc1, iv 999] hb10 (by kernel_rfl) (at_any ra1 awL.length rc1 awL 999 _ ((rowOf_recs (S3.nth 1 rfl) _ rfl (fun _ => rfl) (by decide)))) ?_
 rintro _ w4 ⟨rfl, T2⟩
 have S4 : Sep w [box b1 [iv 0, iv 0] 39, rowOf drE ra1 rc1 27 5 awL] w4 := S3.trans T2
 clear T2 S3
 refine J.run 3 K8_4 [(17, iv (fndE awL 999)), (16, .agg #[iv ((atD awL 999).gAt), iv ((atD awL 999).gPedal), iv ((atD awL 999).gBrake), iv ((atD awL 999).gGear), iv ((atD awL 999).gLoad)]), (3, iv 0), (1, .slice ra1 awL.length rc1)] w4 (by kernel_rfl) ?_
 refine J.new S4 4 [iv 0, iv 0, iv 0, iv 0, iv 0] 27 (by kernel_rfl) ?_
 intro b2 w5 S5
 refine J.stBox S5 0 27 0 (.agg #[iv ((atD awL 999).gAt), iv ((atD awL 999).gPedal), iv ((atD awL 999).gBrake), iv ((atD awL 999).gGear), iv ((atD awL 999).gLoad)]) [iv ((atD awL 999).gAt), iv ((atD awL 999).gPedal), iv ((atD awL 999).gBrake), iv ((atD awL 999).gGear), iv ((atD awL 999).gLoad)] [box b2 [iv ((atD awL 999).gAt), iv ((atD awL 999).gPedal), iv ((atD awL 999).gBrake), iv ((atD awL 999).gGear), iv ((atD awL 999).gLoad)] 27, box b1 [iv 0, iv 0] 39, rowOf drE ra1 rc1 27 5 awL] (by kernel_rfl) rfl (by kernel_rfl) (by kernel_rfl) rfl ?_
 intro w6 S6
 refine J.run 5 K8_5 [(19, .slice ra1 awL.length rc1), (5, iv (fndE awL 999)), (4, .pointer (some ⟨b2, 0, none⟩)), (3, iv 0)] w6 (by kernel_rfl) ?_
 refine J.callF 20 11 #[.slice ra1 awL.length rc1, iv 999] hb11 (by kernel_rfl) (ramp_any ra1 awL.length rc1 awL 999 _ ((rowOf_recs (S6.nth 2 rfl) _ rfl (fun _ => rfl) (by decide)))) ?_
 rintro _ w7 ⟨rfl, T3⟩
 have S7 : Sep w [box b2 [iv ((atD awL 999).gAt), iv ((atD awL 999).gPedal), iv ((atD awL 999).gBrake), iv ((atD awL 999).gGear), iv ((atD awL 999).gLoad)] 27, box b1 [iv 0, iv 0] 39, rowOf drE ra1 rc1 27 5 awL] w7 := S6.trans T3
 clear T3 S6
 refine J.run 3 K8_6 [(22, iv (fndE awL 999)), (21, .agg #[iv ((rampD awL 999).gAt), iv ((rampD awL 999).gPedal), iv ((rampD awL 999).gBrake), iv ((rampD awL 999).gGear), iv ((rampD awL 999).gLoad)]), (5, iv (fndE awL 999)), (4, .pointer (some ⟨b2, 0, none⟩)), (3, iv 0)] w7 (by kernel_rfl) ?_
 refine J.new S7 6 [iv 0, iv 0, iv 0, iv 0, iv 0] 27 (by kernel_rfl) ?_
 intro b3 w8 S8
 refine J.stBox S8 0 27 0 (.agg #[iv ((rampD awL 999).gAt), iv ((rampD awL 999).gPedal), iv ((rampD awL 999).gBrake), iv ((rampD awL 999).gGear), iv ((rampD awL 999).gLoad)]) [iv ((rampD awL 999).gAt), iv ((rampD awL 999).gPedal), iv ((rampD awL 999).gBrake), iv ((rampD awL 999).gGear), iv ((rampD awL 999).gLoad)] [box b3 [iv ((rampD awL 999).gAt), iv ((rampD awL 999).gPedal), iv ((rampD awL 999).gBrake), iv ((rampD awL 999).gGear), iv ((rampD awL 999).gLoad)] 27, box b2 [iv ((atD awL 999).gAt), iv ((atD awL 999).gPedal), iv ((atD awL 999).gBrake), iv ((atD awL 999).gGear), iv ((atD awL 999).gLoad)] 27, box b1 [iv 0, iv 0] 39, rowOf drE ra1 rc1 27 5 awL] (by kernel_rfl) rfl (by kernel_rfl) (by kernel_rfl) rfl ?_
 intro w9 S9
 refine J.run 11 K8_7 [(29, .bool ((fndE awL 999) == 0)), (7, iv (fndE awL 999)), (6, .pointer (some ⟨b3, 0, none⟩)), (4, .pointer (some ⟨b2, 0, none⟩))] w9 (by kernel_rfl) ?_
 have fk2 : (fndE awL 999) = 0 := (by decide +kernel)
 refine J.head (.bool true) (congrArg Value.bool (beq_iff_eq.2 fk2)) ?_
 refine J.run 4 K8_8 [(33, .bool ((fndE awL 999) == 0)), (6, .pointer (some ⟨b3, 0, none⟩)), (4, .pointer (some ⟨b2, 0, none⟩))] w9 (by kernel_rfl) ?_
 refine J.head (.bool true) (congrArg Value.bool (beq_iff_eq.2 fk2)) ?_
 refine J.ok (OK.ldBox S9 1 34 27 0 (.agg #[iv ((atD awL 999).gAt), iv ((atD awL 999).gPedal), iv ((atD awL 999).gBrake), iv ((atD awL 999).gGear), iv ((atD awL 999).gLoad)]) (by kernel_rfl) rfl (by kernel_rfl)) ?_
 refine J.run 1 K8_9 [(35, .agg #[iv 999, iv 0, iv 0, iv 0, iv 0]), (34, .agg #[iv ((atD awL 999).gAt), iv ((atD awL 999).gPedal), iv ((atD awL 999).gBrake), iv ((atD awL 999).gGear), iv ((atD awL 999).gLoad)]), (33, .bool true), (6, .pointer (some ⟨b3, 0, none⟩))] w9 (by kernel_rfl) ?_
 refine J.ok (OK.eqS 36 true 27 #[iv ((atD awL 999).gAt), iv ((atD awL 999).gPedal), iv ((atD awL 999).gBrake), iv ((atD awL 999).gGear), iv ((atD awL 999).gLoad)] #[iv 999, iv 0, iv 0, iv 0, iv 0] ((((atD awL 999).gAt) == 999) && ((((atD awL 999).gPedal) == 0) && ((((atD awL 999).gBrake) == 0) && ((((atD awL 999).gGear) == 0) && ((((atD awL 999).gLoad) == 0) && true))))) (by kernel_rfl) (by kernel_rfl) (by kernel_rfl) ((((atD awL 999).gAt) == 999) && ((((atD awL 999).gPedal) == 0) && ((((atD awL 999).gBrake) == 0) && ((((atD awL 999).gGear) == 0) && (((atD awL 999).gLoad) == 0))))) (by simp)) ?_
 refine J.run 2 K8_10 [(38, .bool ((((atD awL 999).gAt) == 999) && ((((atD awL 999).gPedal) == 0) && ((((atD awL 999).gBrake) == 0) && ((((atD awL 999).gGear) == 0) && (((atD awL 999).gLoad) == 0)))))), (6, .pointer (some ⟨b3, 0, none⟩))] w9 (by kernel_rfl) ?_
 have fk5 : ((((atD awL 999).gAt) == 999) && ((((atD awL 999).gPedal) == 0) && ((((atD awL 999).gBrake) == 0) && ((((atD awL 999).gGear) == 0) && (((atD awL 999).gLoad) == 0))))) = true := (by decide +kernel)
 refine J.head (.bool true) (congrArg Value.bool fk5) ?_
 refine J.ok (OK.ldBox S9 0 39 27 0 (.agg #[iv ((rampD awL 999).gAt), iv ((rampD awL 999).gPedal), iv ((rampD awL 999).gBrake), iv ((rampD awL 999).gGear), iv ((rampD awL 999).gLoad)]) (by kernel_rfl) rfl (by kernel_rfl)) ?_
 refine J.run 1 K8_11 [(40, .agg #[iv 999, iv 299, iv 0, iv 0, iv (-200)]), (39, .agg #[iv ((rampD awL 999).gAt), iv ((rampD awL 999).gPedal), iv ((rampD awL 999).gBrake), iv ((rampD awL 999).gGear), iv ((rampD awL 999).gLoad)]), (38, .bool true)] w9 (by kernel_rfl) ?_
 refine J.ok (OK.eqS 41 true 27 #[iv ((rampD awL 999).gAt), iv ((rampD awL 999).gPedal), iv ((rampD awL 999).gBrake), iv ((rampD awL 999).gGear), iv ((rampD awL 999).gLoad)] #[iv 999, iv 299, iv 0, iv 0, iv (-200)] ((((rampD awL 999).gAt) == 999) && ((((rampD awL 999).gPedal) == 299) && ((((rampD awL 999).gBrake) == 0) && ((((rampD awL 999).gGear) == 0) && ((((rampD awL 999).gLoad) == (-200)) && true))))) (by kernel_rfl) (by kernel_rfl) (by kernel_rfl) ((((rampD awL 999).gAt) == 999) && ((((rampD awL 999).gPedal) == 299) && ((((rampD awL 999).gBrake) == 0) && ((((rampD awL 999).gGear) == 0) && (((rampD awL 999).gLoad) == (-200)))))) (by simp)) ?_
 refine J.run 3 K8_12 [(0, .bool ((((rampD awL 999).gAt) == 999) && ((((rampD awL 999).gPedal) == 299) && ((((rampD awL 999).gBrake) == 0) && ((((rampD awL 999).gGear) == 0) && (((rampD awL 999).gLoad) == (-200)))))))] w9 (by kernel_rfl) ?_
 refine J.ret Tryd.f8 [.bool ((((rampD awL 999).gAt) == 999) && ((((rampD awL 999).gPedal) == 299) && ((((rampD awL 999).gBrake) == 0) && ((((rampD awL 999).gGear) == 0) && (((rampD awL 999).gLoad) == (-200))))))] Tryd.func8 ⟨by kernel_rfl, trivial⟩ ?_
 refine hR _ _ ?_
 have fk6 : ((((rampD awL 999).gAt) == 999) && ((((rampD awL 999).gPedal) == 299) && ((((rampD awL 999).gBrake) == 0) && ((((rampD awL 999).gGear) == 0) && (((rampD awL 999).gLoad) == (-200)))))) = true := (by decide +kernel)
 exact ⟨congrArg Value.bool fk6, S9.nil⟩

theorem hb4 : HasBody Tryd.prog 4 := fun _ _ => by kernel_rfl
def eqDr (a b : Dr) : Bool := ((a.gAt == b.gAt) && ((a.gPedal == b.gPedal) && ((a.gBrake == b.gBrake) && ((a.gGear == b.gGear) && (a.gLoad == b.gLoad)))))
theorem eqDr_refl (a : Dr) : eqDr a a = true := by simp [eqDr]
def sameDr (l m : List Dr) : Bool := decide (l.length = m.length) && (List.range l.length).all fun j => eqDr (l.getD j dr0) (m.getD j dr0)
theorem sameDr_refl (l : List Dr) : sameDr l l = true := by
  unfold sameDr; rw [decide_eq_true rfl, Bool.true_and, List.all_eq_true]; intro j _; exact eqDr_refl _
theorem sameDr_no {l m : List Dr} (h : l.length ≠ m.length) : sameDr l m = false := by unfold sameDr; rw [decide_eq_false h]; rfl
theorem sameDr_bad {l m : List Dr} {j : Nat} (h : j < l.length) (h2 : eqDr (l.getD j dr0) (m.getD j dr0) = false) : sameDr l m = false := by
  unfold sameDr; rw [Bool.and_eq_false_iff, List.all_eq_false]; exact .inr ⟨j, List.mem_range.2 h, by rw [h2]; decide⟩
theorem sameDr_yes {l m : List Dr} (h : l.length = m.length) (h2 : ∀ j, j < l.length → eqDr (l.getD j dr0) (m.getD j dr0) = true) : sameDr l m = true := by
  unfold sameDr; rw [decide_eq_true h, Bool.true_and, List.all_eq_true]; intro j hj; exact h2 j (List.mem_range.1 hj)
theorem hb20 : HasBody Tryd.prog 20 := fun _ _ => by kernel_rfl
noncomputable def K20_0 : List Item := adv 13 [] (bodyOf Tryd.f20)
noncomputable def K20_1 : List Item := adv 11 [false] K20_0
noncomputable def K20_2 : List Item := adv 5 [] K20_1
noncomputable def K20_3 : List Item := adv 10 [true] K20_2
noncomputable def K20_4 : List Item := adv 5 [false] (rRest K20_3)
noncomputable def K20_5 : List Item := adv 5 [true] (rRest K20_3)
noncomputable def K20_6 : List Item := adv 6 [false] K20_2
noncomputable def K20_7 : List Item := adv 5 [true] K20_0
set_option maxRecDepth 20000 in
set_option maxHeartbeats 20000000 in
theorem equalDr_any (la : Option Addr) (na ca : Nat) (xa : List Dr) (lb : Option Addr) (nb cb : Nat) (xb : List Dr) (w : World) (ha : Recs drE 5 w la na xa) (hb : Recs drE 5 w lb nb xb) (hla : na ≤ 9223372036854775807) : Ret Tryd.prog 20 #[.slice la na ca, .slice lb nb cb] w (fun v w' => v = .bool (sameDr xa xb) ∧ Sep w [] w') := by
 have S0 := Sep.refl w
 refine Ret.named fun R hR => ?_
 refine Ret.of_J (N := 26) [(0, .slice la na ca), (1, .slice lb nb cb)] Tryd.func20 rfl rfl (Nat.le_of_ble_eq_true (by kernel_rfl)) (by kernel_rfl) ?_
 have hla_ := ha.len_eq
 have hlb_ := hb.len_eq
 refine J.run 13 K20_0 [(10, .bool ((na : Int) != (nb : Int))), (0, .slice la na ca), (1, .slice lb nb cb)] w (by kernel_rfl) ?_
 by_cases fk1 : (na : Int) = (nb : Int)
 ·skip
  refine J.head (.bool false) (congrArg Value.bool (bne_eq_false_iff_eq.2 fk1)) ?_
  refine J.run 11 K20_1 [(13, iv 0), (12, iv (na : Int)), (0, .slice la na ca), (1, .slice lb nb cb)] w (by kernel_rfl) ?_
  have L20_1 : ∀ (mm_ : Nat) (i : Int) (w1 : World), (0 ≤ i) → (i ≤ (na : Int)) → (∀ j, j < (i).toNat → eqDr (xa.getD j dr0) (xb.getD j dr0) = true) → Sep w [] w1 → ((na : Int) - i).toNat = mm_ → J Tryd.prog 20 26 R K20_1 [(13, iv i), (12, iv (na : Int)), (0, .slice la na ca), (1, .slice lb nb cb)] w1 := by
   intro mm1
   induction mm1 using Nat.strongRecOn with
   | _ mm1 ih1 =>
   intro i w1 h0 h1 hq S1 hm1
   refine J.run 5 K20_2 [(14, .bool (decide (i < (na : Int)))), (13, iv i), (12, iv (na : Int)), (0, .slice la na ca), (1, .slice lb nb cb)] w1 (by kernel_rfl) ?_
   by_cases fk2 : i < (na : Int)
   ·skip
    refine J.head (.bool true) (congrArg Value.bool (decide_eq_true fk2)) ?_
    refine J.run 10 K20_3 [(5, iv i), (13, iv i), (12, iv (na : Int)), (0, .slice la na ca), (1, .slice lb nb cb)] w1 (by kernel_rfl) ?_
    obtain ⟨p1, hp1, hc1⟩ := ha.at dr0 (i).toNat (by omega)
    obtain ⟨p2, hp2, hc2⟩ := hb.at dr0 (i).toNat (by omega)
    refine J.drawStill S1 9 Tryd.mixed (by kernel_rfl) (by kernel_rfl) (by kernel_rfl) ?_
    intro w2 S2
    refine SL.ok (by decide) (OK.run 16 (.slice la na ca) (by kernel_rfl)) ?_
    refine SL.ok (by decide) (OK.run 17 (iv i) (by kernel_rfl)) ?_
    refine SL.ok (by decide) (OK.index 18 22 5 la p1 na (i).toNat i (p1.add ((i).toNat * 5)) (by kernel_rfl) (by kernel_rfl) hp1 (by omega) (by omega) rfl) ?_
    refine SL.ok (by decide) (OK.ldCells 19 27 (p1.add ((i).toNat * 5)) [iv ((xa.getD (i).toNat dr0).gAt), iv ((xa.getD (i).toNat dr0).gPedal), iv ((xa.getD (i).toNat dr0).gBrake), iv ((xa.getD (i).toNat dr0).gGear), iv ((xa.getD (i).toNat dr0).gLoad)] (by kernel_rfl) (by kernel_rfl) (by kernel_rfl) (fun j_ v_ hj_ => S2.cell (hc1 j_ v_ hj_))) ?_
    refine SL.ok (by decide) (OK.run 20 (.slice lb nb cb) (by kernel_rfl)) ?_
    refine SL.ok (by decide) (OK.run 21 (iv i) (by kernel_rfl)) ?_
    refine SL.ok (by decide) (OK.index 22 22 5 lb p2 nb (i).toNat i (p2.add ((i).toNat * 5)) (by kernel_rfl) (by kernel_rfl) hp2 (by omega) (by omega) rfl) ?_
    refine SL.ok (by decide) (OK.ldCells 23 27 (p2.add ((i).toNat * 5)) [iv ((xb.getD (i).toNat dr0).gAt), iv ((xb.getD (i).toNat dr0).gPedal), iv ((xb.getD (i).toNat dr0).gBrake), iv ((xb.getD (i).toNat dr0).gGear), iv ((xb.getD (i).toNat dr0).gLoad)] (by kernel_rfl) (by kernel_rfl) (by kernel_rfl) (fun j_ v_ hj_ => S2.cell (hc2 j_ v_ hj_))) ?_
    refine SL.ok (by decide) (OK.eqS 24 false 27 #[iv ((xa.getD (i).toNat dr0).gAt), iv ((xa.getD (i).toNat dr0).gPedal), iv ((xa.getD (i).toNat dr0).gBrake), iv ((xa.getD (i).toNat dr0).gGear), iv ((xa.getD (i).toNat dr0).gLoad)] #[iv ((xb.getD (i).toNat dr0).gAt), iv ((xb.getD (i).toNat dr0).gPedal), iv ((xb.getD (i).toNat dr0).gBrake), iv ((xb.getD (i).toNat dr0).gGear), iv ((xb.getD (i).toNat dr0).gLoad)] ((((xa.getD (i).toNat dr0).gAt) == ((xb.getD (i).toNat dr0).gAt)) && ((((xa.getD (i).toNat dr0).gPedal) == ((xb.getD (i).toNat dr0).gPedal)) && ((((xa.getD (i).toNat dr0).gBrake) == ((xb.getD (i).toNat dr0).gBrake)) && ((((xa.getD (i).toNat dr0).gGear) == ((xb.getD (i).toNat dr0).gGear)) && ((((xa.getD (i).toNat dr0).gLoad) == ((xb.getD (i).toNat dr0).gLoad)) && true))))) (by kernel_rfl) (by kernel_rfl) (by kernel_rfl) (!((((xa.getD (i).toNat dr0).gAt) == ((xb.getD (i).toNat dr0).gAt)) && ((((xa.getD (i).toNat dr0).gPedal) == ((xb.getD (i).toNat dr0).gPedal)) && ((((xa.getD (i).toNat dr0).gBrake) == ((xb.getD (i).toNat dr0).gBrake)) && ((((xa.getD (i).toNat dr0).gGear) == ((xb.getD (i).toNat dr0).gGear)) && (((xa.getD (i).toNat dr0).gLoad) == ((xb.getD (i).toNat dr0).gLoad))))))) (by simp)) ?_
    refine SL.done ?_
    refine TL.done (by kernel_rfl) ?_
    refine J.run 0 (rRest K20_3) [(24, .bool (!((((xa.getD (i).toNat dr0).gAt) == ((xb.getD (i).toNat dr0).gAt)) && ((((xa.getD (i).toNat dr0).gPedal) == ((xb.getD (i).toNat dr0).gPedal)) && ((((xa.getD (i).toNat dr0).gBrake) == ((xb.getD (i).toNat dr0).gBrake)) && ((((xa.getD (i).toNat dr0).gGear) == ((xb.getD (i).toNat dr0).gGear)) && (((xa.getD (i).toNat dr0).gLoad) == ((xb.getD (i).toNat dr0).gLoad)))))))), (13, iv i), (12, iv (na : Int)), (0, .slice la na ca), (1, .slice lb nb cb)] w2 (by kernel_rfl) ?_
    rcases Bool.eq_false_or_eq_true ((((xa.getD (i).toNat dr0).gAt) == ((xb.getD (i).toNat dr0).gAt)) && ((((xa.getD (i).toNat dr0).gPedal) == ((xb.getD (i).toNat dr0).gPedal)) && ((((xa.getD (i).toNat dr0).gBrake) == ((xb.getD (i).toNat dr0).gBrake)) && ((((xa.getD (i).toNat dr0).gGear) == ((xb.getD (i).toNat dr0).gGear)) && (((xa.getD (i).toNat dr0).gLoad) == ((xb.getD (i).toNat dr0).gLoad)))))) with fk3 | fk3
    ·skip
     refine J.head (.bool false) (congrArg Value.bool (by rw [fk3]; rfl)) ?_
     refine J.run 5 K20_4 [(25, iv (IntKind.wrap .i64 (i + 1))), (12, iv (na : Int)), (0, .slice la na ca), (1, .slice lb nb cb)] w2 (by kernel_rfl) ?_
     refine J.head (iv (i + 1)) (congrArg (Value.int .i64) (IntWalk.i64_in _ (by omega))) ?_
     refine J.run 3 K20_1 [(13, iv (i + 1)), (12, iv (na : Int)), (0, .slice la na ca), (1, .slice lb nb cb)] w2 (by kernel_rfl) ?_
     refine J.run 0 K20_1 [(13, iv (i + 1)), (12, iv (na : Int)), (0, .slice la na ca), (1, .slice lb nb cb)] w2 (by kernel_rfl) ?_
     exact ih1 _ (show ((na : Int) - (i + 1)).toNat < mm1 from by omega) (i + 1) w2 (by omega) (by omega) (by intro j hj; by_cases e_ : j = i.toNat; (subst e_; unfold eqDr; exact fk3); exact hq j (by omega)) S2 rfl
    ·skip
     refine J.head (.bool true) (congrArg Value.bool (by rw [fk3]; rfl)) ?_
     refine J.run 5 K20_5 [(4, .bool false)] w2 (by kernel_rfl) ?_
     refine J.ret Tryd.f20 [.bool false] Tryd.func20 ⟨by kernel_rfl, trivial⟩ ?_
     refine hR _ _ ?_
     exact ⟨congrArg Value.bool (sameDr_bad (j := i.toNat) (by omega) (by unfold eqDr; exact fk3)).symm, S2.nil⟩
   ·skip
    refine J.head (.bool false) (congrArg Value.bool (decide_eq_false fk2)) ?_
    refine J.run 6 K20_6 [(4, .bool true)] w1 (by kernel_rfl) ?_
    refine J.ret Tryd.f20 [.bool true] Tryd.func20 ⟨by kernel_rfl, trivial⟩ ?_
    refine hR _ _ ?_
    exact ⟨congrArg Value.bool (sameDr_yes (by omega) fun j hj => hq j (by omega)).symm, S1.nil⟩
  exact L20_1 _ 0 w (by omega) (by omega) (by intro j hj; simp at hj) S0 rfl
 ·skip
  refine J.head (.bool true) (congrArg Value.bool (bne_iff_ne.2 fk1)) ?_
  refine J.run 5 K20_7 [(4, .bool false)] w (by kernel_rfl) ?_
  refine J.ret Tryd.f20 [.bool false] Tryd.func20 ⟨by kernel_rfl, trivial⟩ ?_
  refine hR _ _ ?_
  exact ⟨congrArg Value.bool (sameDr_no (by omega)).symm, S0.nil⟩

end Go.Proofs.YthhdaackhfffiaaDoor

