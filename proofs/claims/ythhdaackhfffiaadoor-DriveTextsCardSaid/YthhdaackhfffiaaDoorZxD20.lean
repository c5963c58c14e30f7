/- Walks of functions of this seat, printed by a program over the engine. Conditions: as each theorem says. -/
import Derived.Test.YthhdaackhfffiaaDoorZxD19
namespace Go.Proofs.YthhdaackhfffiaaDoor
open Go.Eng Go.RowKit
set_option linter.unusedSimpArgs false
set_option linter.unusedVariables false
def awL : List Dr := [⟨0, 0, 0, 0, 0⟩, ⟨1000, 300, 0, 3, -200⟩]
theorem par_lit : parF (⟨#[97, 116, 32, 48, 32, 112, 101, 100, 97, 108, 32, 48, 32, 98, 114, 97, 107, 101, 32, 48, 32, 103, 101, 97, 114, 32, 48, 32, 108, 111, 97, 100, 32, 48, 10, 97, 116, 32, 49, 48, 48, 48, 32, 112, 101, 100, 97, 108, 32, 51, 48, 48, 32, 98, 114, 97, 107, 101, 32, 48, 32, 103, 101, 97, 114, 32, 51, 32, 108, 111, 97, 100, 32, 45, 50, 48, 48, 10]⟩ : ByteArray) = ⟨awL, 0, 0, 0⟩ := by kernel_rfl
theorem parse_lit (w : World) (hW : TabW w) : Ret Tryd.prog 18 #[.string (⟨#[97, 116, 32, 48, 32, 112, 101, 100, 97, 108, 32, 48, 32, 98, 114, 97, 107, 101, 32, 48, 32, 103, 101, 97, 114, 32, 48, 32, 108, 111, 97, 100, 32, 48, 10, 97, 116, 32, 49, 48, 48, 48, 32, 112, 101, 100, 97, 108, 32, 51, 48, 48, 32, 98, 114, 97, 107, 101, 32, 48, 32, 103, 101, 97, 114, 32, 51, 32, 108, 111, 97, 100, 32, 45, 50, 48, 48, 10]⟩ : ByteArray)] w (fun v w' => ∃ a cap, v = .tuple #[.slice a awL.length cap, .agg #[iv 0, iv 0], iv 0] ∧ Sep w [rowOf drE a cap 27 5 awL] w') := by
  have h := parse_any (⟨#[97, 116, 32, 48, 32, 112, 101, 100, 97, 108, 32, 48, 32, 98, 114, 97, 107, 101, 32, 48, 32, 103, 101, 97, 114, 32, 48, 32, 108, 111, 97, 100, 32, 48, 10, 97, 116, 32, 49, 48, 48, 48, 32, 112, 101, 100, 97, 108, 32, 51, 48, 48, 32, 98, 114, 97, 107, 101, 32, 48, 32, 103, 101, 97, 114, 32, 51, 32, 108, 111, 97, 100, 32, 45, 50, 48, 48, 10]⟩ : ByteArray) w (by decide) hW
  rw [par_lit] at h
  exact h

theorem hb8 : HasBody Tryd.prog 8 := fun _ _ => by kernel_rfl
noncomputable def K8_0 : List Item := adv 6 [] (bodyOf Tryd.f8)
noncomputable def K8_1 : List Item := adv 4 [] (popK K8_0)
noncomputable def K8_2 : List Item := adv 1 [] (popK K8_1)
noncomputable def K8_3 : List Item := adv 5 [] (popK K8_2)
noncomputable def K8_4 : List Item := adv 3 [] (popK K8_3)
noncomputable def K8_5 : List Item := adv 5 [] (popK (popK K8_4))
noncomputable def K8_6 : List Item := adv 3 [] (popK K8_5)
noncomputable def K8_7 : List Item := adv 11 [] (popK (popK K8_6))
noncomputable def K8_8 : List Item := adv 4 [] K8_7
noncomputable def K8_9 : List Item := adv 1 [] (popK K8_8)
noncomputable def K8_10 : List Item := adv 2 [] (popK K8_9)
noncomputable def K8_11 : List Item := adv 1 [] (popK K8_10)
noncomputable def K8_12 : List Item := adv 3 [] (popK K8_11)
set_option maxRecDepth 20000 in
set_option maxHeartbeats 20000000 in
theorem awake_any  (w : World) (hW : TabW w) : Ret Tryd.prog 8 #[] w (fun v w' => v = .bool true ∧ Sep w [] w') := by
 have S0 := Sep.refl w
 refine Ret.named fun R hR => ?_
 refine Ret.of_J (N := 43) [] Tryd.func8 rfl rfl (Nat.le_of_ble_eq_true (by kernel_rfl)) (by kernel_rfl) ?_
 have hawl : awL.length = 2 := rfl
 refine J.run 6 K8_0 [] w (by kernel_rfl) ?_
 refine J.callF 9 18 #[.string ⟨#[97, 116, 32, 48, 32, 112, 101, 100, 97, 108, 32, 48, 32, 98, 114, 97, 107, 101, 32, 48, 32, 103, 101, 97, 114, 32, 48, 32, 108, 111, 97, 100, 32, 48, 10, 97, 116, 32, 49, 48, 48, 48, 32, 112, 101, 100, 97, 108, 32, 51, 48, 48, 32, 98, 114, 97, 107, 101, 32, 48, 32, 103, 101, 97, 114, 32, 51, 32, 108, 111, 97, 100, 32, 45, 50, 48, 48, 10]⟩] hb18 (by kernel_rfl) (parse_lit  _ (tabW_sep hW S0)) ?_
 rintro _ w1 ⟨ra1, rc1, rfl, T1⟩
 have S1 : Sep w [rowOf drE ra1 rc1 27 5 awL] w1 := S0.trans T1
 clear T1
 refine J.run 4 K8_1 [(12, iv 0), (11, .agg #[iv 0, iv 0]), (10, .slice ra1 awL.length rc1)] w1 (by kernel_rfl) ?_
 refine J.new S1 2 [iv 0, iv 0] 39 (by kernel_rfl) ?_
 intro b1 w2 S2
 refine J.run 1 K8_2 [(1, .slice ra1 awL.length rc1), (2, .pointer (some ⟨b1, 0, none⟩)), (12, iv 0), (11, .agg #[iv 0, iv 0])] w2 (by kernel_rfl) ?_
 refine J.stBox S2 0 39 0 (.agg #[iv 0, iv 0]) [iv 0, iv 0] [box b1 [iv 0, iv 0] 39, rowOf drE ra1 rc1 27 5 awL] (by kernel_rfl) rfl (by kernel_rfl) (by kernel_rfl) rfl ?_
 intro w3 S3
 refine J.run 5 K8_3 [(14, .slice ra1 awL.length rc1), (3, iv 0), (1, .slice ra1 awL.length rc1)] w3 (by kernel_rfl) ?_
 refine J.callF 15 10 #[.slice ra1 awL.length rc1, iv 999] hb10 (by kernel_rfl) (at_any ra1 awL.length rc1 awL 999 _ ((rowOf_recs (S3.nth 1 rfl) _ rfl (fun _ => rfl) (by decide)))) ?_
 rintro _ w4 ⟨rfl, T2⟩
 have S4 : Sep w [box b1 [iv 0, iv 0] 39, rowOf drE ra1 rc1 27 5 awL] w4 := S3.trans T2
 clear T2 S3
 refine J.run 3 K8_4 [(17, iv (fndE awL 999)), (16, .agg #[iv ((atD awL 999).gAt), iv ((atD awL 999).gPedal), iv ((atD awL 999).gBrake), iv ((atD awL 999).gGear), iv ((atD awL 999).gLoad)]), (3, iv 0), (1, .slice ra1 awL.length rc1)] w4 (by kernel_rfl) ?_
 refine J.new S4 4 [iv 0, iv 0, iv 0, iv 0, iv 0] 27 (by kernel_rfl) ?_
 intro b2 w5 S5
 refine J.stBox S5 0 27 0 (.agg #[iv ((atD awL 999).gAt), iv ((atD awL 999).gPedal), iv ((atD awL 999).gBrake), iv ((atD awL 999).gGear), iv ((atD awL 999).gLoad)]) [iv ((atD awL 999).gAt), iv ((atD awL 999).gPedal), iv ((atD awL 999).gBrake), iv ((atD awL 999).gGear), iv ((atD awL 999).gLoad)] [box b2 [iv ((atD awL 999).gAt), iv ((atD awL 999).gPedal), iv ((atD awL 999).gBrake), iv ((atD awL 999).gGear), iv ((atD awL 999).gLoad)] 27, box b1 [iv 0, iv 0] 39, rowOf drE ra1 rc1 27 5 awL] (by kernel_rfl) rfl (by kernel_rfl) (by kernel_rfl) rfl ?_
 intro w6 S6
 refine J.run 5 K8_5 [(19, .slice ra1 awL.length rc1), (5, iv (fndE awL 999)), (4, .pointer (some ⟨b2, 0, none⟩)), (3, iv 0)] w6 (by kernel_rfl) ?_
 refine J.callF 20 11 #[.slice ra1 awL.length rc1, iv 999] hb11 (by kernel_rfl) (ramp_any ra1 awL.length rc1 awL 999 _ ((rowOf_recs (S6.nth 2 rfl) _ rfl (fun _ => rfl) (by decide)))) ?_
 rintro _ w7 ⟨rfl, T3⟩
 have S7 : Sep w [box b2 [iv ((atD awL 999).gAt), iv ((atD awL 999).gPedal), iv ((atD awL 999).gBrake), iv ((atD awL 999).gGear), iv ((atD awL 999).gLoad)] 27, box b1 [iv 0, iv 0] 39, rowOf drE ra1 rc1 27 5 awL] w7 := S6.trans T3
 clear T3 S6
 refine J.run 3 K8_6 [(22, iv (fndE awL 999)), (21, .agg #[iv ((rampD awL 999).gAt), iv ((rampD awL 999).gPedal), iv ((rampD awL 999).gBrake), iv ((rampD awL 999).gGear), iv ((rampD awL 999).gLoad)]), (5, iv (fndE awL 999)), (4, .pointer (some ⟨b2, 0, none⟩)), (3, iv 0)] w7 (by kernel_rfl) ?_
 refine J.new S7 6 [iv 0, iv 0, iv 0, iv 0, iv 0] 27 (by kernel_rfl) ?_
 intro b3 w8 S8
 refine J.stBox S8 0 27 0 (.agg #[iv ((rampD awL 999).gAt), iv ((rampD awL 999).gPedal), iv ((rampD awL 999).gBrake), iv ((rampD awL 999).gGear), iv ((rampD awL 999).gLoad)]) [iv ((rampD awL 999).gAt), iv ((rampD awL 999).gPedal), iv ((rampD awL 999).gBrake), iv ((rampD awL 999).gGear), iv ((rampD awL 999).gLoad)] [box b3 [iv ((rampD awL 999).gAt), iv ((rampD awL 999).gPedal), iv ((rampD awL 999).gBrake), iv ((rampD awL 999).gGear), iv ((rampD awL 999).gLoad)] 27, box b2 [iv ((atD awL 999).gAt), iv ((atD awL 999).gPedal), iv ((atD awL 999).gBrake), iv ((atD awL 999).gGear), iv ((atD awL 999).gLoad)] 27, box b1 [iv 0, iv 0] 39, rowOf drE ra1 rc1 27 5 awL] (by kernel_rfl) rfl (by kernel_rfl) (by kernel_rfl) rfl ?_
 intro w9 S9
 refine J.run 11 K8_7 [(29, .bool ((fndE awL 999) == 0)), (7, iv (fndE awL 999)), (6, .pointer (some ⟨b3, 0, none⟩)), (4, .pointer (some ⟨b2, 0, none⟩))] w9 (by kernel_rfl) ?_
 have fk2 : (fndE awL 999) = 0 := (by decide +kernel)
 refine J.head (.bool true) (congrArg Value.bool (beq_iff_eq.2 fk2)) ?_
 refine J.run 4 K8_8 [(33, .bool ((fndE awL 999) == 0)), (6, .pointer (some ⟨b3, 0, none⟩)), (4, .pointer (some ⟨b2, 0, none⟩))] w9 (by kernel_rfl) ?_
 refine J.head (.bool true) (congrArg Value.bool (beq_iff_eq.2 fk2)) ?_
 refine J.ok (OK.ldBox S9 1 34 27 0 (.agg #[iv ((atD awL 999).gAt), iv ((atD awL 999).gPedal), iv ((atD awL 999).gBrake), iv ((atD awL 999).gGear), iv ((atD awL 999).gLoad)]) (by kernel_rfl) rfl (by kernel_rfl)) ?_
 refine J.run 1 K8_9 [(35, .agg #[iv 999, iv 0, iv 0, iv 0, iv 0]), (34, .agg #[iv ((atD awL 999).gAt), iv ((atD awL 999).gPedal), iv ((atD awL 999).gBrake), iv ((atD awL 999).gGear), iv ((atD awL 999).gLoad)]), (33, .bool true), (6, .pointer (some ⟨b3, 0, none⟩))] w9 (by kernel_rfl) ?_
 refine J.ok (OK.eqS 36 true 27 #[iv ((atD awL 999).gAt), iv ((atD awL 999).gPedal), iv ((atD awL 999).gBrake), iv ((atD awL 999).gGear), iv ((atD awL 999).gLoad)] #[iv 999, iv 0, iv 0, iv 0, iv 0] ((((atD awL 999).gAt) == 999) && ((((atD awL 999).gPedal) == 0) && ((((atD awL 999).gBrake) == 0) && ((((atD awL 999).gGear) == 0) && ((((atD awL 999).gLoad) == 0) && true))))) (by kernel_rfl) (by kernel_rfl) (by kernel_rfl) ((((atD awL 999).gAt) == 999) && ((((atD awL 999).gPedal) == 0) && ((((atD awL 999).gBrake) == 0) && ((((atD awL 999).gGear) == 0) && (((atD awL 999).gLoad) == 0))))) (by simp)) ?_
 refine J.run 2 K8_10 [(38, .bool ((((atD awL 999).gAt) == 999) && ((((atD awL 999).gPedal) == 0) && ((((atD awL 999).gBrake) == 0) && ((((atD awL 999).gGear) == 0) && (((atD awL 999).gLoad) == 0)))))), (6, .pointer (some ⟨b3, 0, none⟩))] w9 (by kernel_rfl) ?_
 have fk5 : ((((atD awL 999).gAt) == 999) && ((((atD awL 999).gPedal) == 0) && ((((atD awL 999).gBrake) == 0) && ((((atD awL 999).gGear) == 0) && (((atD awL 999).gLoad) == 0))))) = true := (by decide +kernel)
 refine J.head (.bool true) (congrArg Value.bool fk5) ?_
 refine J.ok (OK.ldBox S9 0 39 27 0 (.agg #[iv ((rampD awL 999).gAt), iv ((rampD awL 999).gPedal), iv ((rampD awL 999).gBrake), iv ((rampD awL 999).gGear), iv ((rampD awL 999).gLoad)]) (by kernel_rfl) rfl (by kernel_rfl)) ?_
 refine J.run 1 K8_11 [(40, .agg #[iv 999, iv 299, iv 0, iv 0, iv (-200)]), (39, .agg #[iv ((rampD awL 999).gAt), iv ((rampD awL 999).gPedal), iv ((rampD awL 999).gBrake), iv ((rampD awL 999).gGear), iv ((rampD awL 999).gLoad)]), (38, .bool true)] w9 (by kernel_rfl) ?_
 refine J.ok (OK.eqS 41 true 27 #[iv ((rampD awL 999).gAt), iv ((rampD awL 999).gPedal), iv ((rampD awL 999).gBrake), iv ((rampD awL 999).gGear), iv ((rampD awL 999).gLoad)] #[iv 999, iv 299, iv 0, iv 0, iv (-200)] ((((rampD awL 999).gAt) == 999) && ((((rampD awL 999).gPedal) == 299) && ((((rampD awL 999).gBrake) == 0) && ((((rampD awL 999).gGear) == 0) && ((((rampD awL 999).gLoad) == (-200)) && true))))) (by kernel_rfl) (by kernel_rfl) (by kernel_rfl) ((((rampD awL 999).gAt) == 999) && ((((rampD awL 999).gPedal) == 299) && ((((rampD awL 999).gBrake) == 0) && ((((rampD awL 999).gGear) == 0) && (((rampD awL 999).gLoad) == (-200)))))) (by simp)) ?_
 refine J.run 3 K8_12 [(0, .bool ((((rampD awL 999).gAt) == 999) && ((((rampD awL 999).gPedal) == 299) && ((((rampD awL 999).gBrake) == 0) && ((((rampD awL 999).gGear) == 0) && (((rampD awL 999).gLoad) == (-200)))))))] w9 (by kernel_rfl) ?_
 refine J.ret Tryd.f8 [.bool ((((rampD awL 999).gAt) == 999) && ((((rampD awL 999).gPedal) == 299) && ((((rampD awL 999).gBrake) == 0) && ((((rampD awL 999).gGear) == 0) && (((rampD awL 999).gLoad) == (-200))))))] Tryd.func8 ⟨by kernel_rfl, trivial⟩ ?_
 refine hR _ _ ?_
 have fk6 : ((((rampD awL 999).gAt) == 999) && ((((rampD awL 999).gPedal) == 299) && ((((rampD awL 999).gBrake) == 0) && ((((rampD awL 999).gGear) == 0) && (((rampD awL 999).gLoad) == (-200)))))) = true := (by decide +kernel)
 exact ⟨congrArg Value.bool fk6, S9.nil⟩

theorem hb4 : HasBody Tryd.prog 4 := fun _ _ => by kernel_rfl
def eqDr (a b : Dr) : Bool := ((a.gAt == b.gAt) && ((a.gPedal == b.gPedal) && ((a.gBrake == b.gBrake) && ((a.gGear == b.gGear) && (a.gLoad == b.gLoad)))))
theorem eqDr_refl (a : Dr) : eqDr a a = true := by simp [eqDr]
def sameDr (l m : List Dr) : Bool := decide (l.length = m.length) && (List.range l.length).all fun j => eqDr (l.getD j dr0) (m.getD j dr0)
theorem sameDr_refl (l : List Dr) : sameDr l l = true := by
  unfold sameDr; rw [decide_eq_true rfl, Bool.true_and, List.all_eq_true]; intro j _; exact eqDr_refl _
theorem sameDr_no {l m : List Dr} (h : l.length ≠ m.length) : sameDr l m = false := by unfold sameDr; rw [decide_eq_false h]; rfl
theorem sameDr_bad {l m : List Dr} {j : Nat} (h : j < l.length) (h2 : eqDr (l.getD j dr0) (m.getD j dr0) = false) : sameDr l m = false := by
  unfold sameDr; rw [Bool.and_eq_false_iff, List.all_eq_false]; exact .inr ⟨j, List.mem_range.2 h, by rw [h2]; decide⟩
theorem sameDr_yes {l m : List Dr} (h : l.length = m.length) (h2 : ∀ j, j < l.length → eqDr (l.getD j dr0) (m.getD j dr0) = true) : sameDr l m = true := by
  unfold sameDr; rw [decide_eq_true h, Bool.true_and, List.all_eq_true]; intro j hj; exact h2 j (List.mem_range.1 hj)
theorem hb20 : HasBody Tryd.prog 20 := fun _ _ => by kernel_rfl
noncomputable def K20_0 : List Item := adv 13 [] (bodyOf Tryd.f20)
noncomputable def K20_1 : List Item := adv 11 [false] K20_0
noncomputable def K20_2 : List Item := adv 5 [] K20_1
noncomputable def K20_3 : List Item := adv 10 [true] K20_2
noncomputable def K20_4 : List Item := adv 5 [false] (rRest K20_3)
noncomputable def K20_5 : List Item := adv 5 [true] (rRest K20_3)
noncomputable def K20_6 : List Item := adv 6 [false] K20_2
noncomputable def K20_7 : List Item := adv 5 [true] K20_0
set_option maxRecDepth 20000 in
set_option maxHeartbeats 20000000 in
theorem equalDr_any (la : Option Addr) (na ca : Nat) (xa : List Dr) (lb : Option Addr) (nb cb : Nat) (xb : List Dr) (w : World) (ha : Recs drE 5 w la na xa) (hb : Recs drE 5 w lb nb xb) (hla : na ≤ 9223372036854775807) : Ret Tryd.prog 20 #[.slice la na ca, .slice lb nb cb] w (fun v w' => v = .bool (sameDr xa xb) ∧ Sep w [] w') := by
 have S0 := Sep.refl w
 refine Ret.named fun R hR => ?_
 refine Ret.of_J (N := 26) [(0, .slice la na ca), (1, .slice lb nb cb)] Tryd.func20 rfl rfl (Nat.le_of_ble_eq_true (by kernel_rfl)) (by kernel_rfl) ?_
 have hla_ := ha.len_eq
 have hlb_ := hb.len_eq
 refine J.run 13 K20_0 [(10, .bool ((na : Int) != (nb : Int))), (0, .slice la na ca), (1, .slice lb nb cb)] w (by kernel_rfl) ?_
 by_cases fk1 : (na : Int) = (nb : Int)
 ·skip
  refine J.head (.bool false) (congrArg Value.bool (bne_eq_false_iff_eq.2 fk1)) ?_
  refine J.run 11 K20_1 [(13, iv 0), (12, iv (na : Int)), (0, .slice la na ca), (1, .slice lb nb cb)] w (by kernel_rfl) ?_
  have L20_1 : ∀ (mm_ : Nat) (i : Int) (w1 : World), (0 ≤ i) → (i ≤ (na : Int)) → (∀ j, j < (i).toNat → eqDr (xa.getD j dr0) (xb.getD j dr0) = true) → Sep w [] w1 → ((na : Int) - i).toNat = mm_ → J Tryd.prog 20 26 R K20_1 [(13, iv i), (12, iv (na : Int)), (0, .slice la na ca), (1, .slice lb nb cb)] w1 := by
   intro mm1
   induction mm1 using Nat.strongRecOn with
   | _ mm1 ih1 =>
   intro i w1 h0 h1 hq S1 hm1
   refine J.run 5 K20_2 [(14, .bool (decide (i < (na : Int)))), (13, iv i), (12, iv (na : Int)), (0, .slice la na ca), (1, .slice lb nb cb)] w1 (by kernel_rfl) ?_
   by_cases fk2 : i < (na : Int)
   ·skip
    refine J.head (.bool true) (congrArg Value.bool (decide_eq_true fk2)) ?_
    refine J.run 10 K20_3 [(5, iv i), (13, iv i), (12, iv (na : Int)), (0, .slice la na ca), (1, .slice lb nb cb)] w1 (by kernel_rfl) ?_
    obtain ⟨p1, hp1, hc1⟩ := ha.at dr0 (i).toNat (by omega)
    obtain ⟨p2, hp2, hc2⟩ := hb.at dr0 (i).toNat (by omega)
    refine J.drawStill S1 9 Tryd.mixed (by kernel_rfl) (by kernel_rfl) (by kernel_rfl) ?_
    intro w2 S2
    refine SL.ok (by decide) (OK.run 16 (.slice la na ca) (by kernel_rfl)) ?_
    refine SL.ok (by decide) (OK.run 17 (iv i) (by kernel_rfl)) ?_
    refine SL.ok (by decide) (OK.index 18 22 5 la p1 na (i).toNat i (p1.add ((i).toNat * 5)) (by kernel_rfl) (by kernel_rfl) hp1 (by omega) (by omega) rfl) ?_
    refine SL.ok (by decide) (OK.ldCells 19 27 (p1.add ((i).toNat * 5)) [iv ((xa.getD (i).toNat dr0).gAt), iv ((xa.getD (i).toNat dr0).gPedal), iv ((xa.getD (i).toNat dr0).gBrake), iv ((xa.getD (i).toNat dr0).gGear), iv ((xa.getD (i).toNat dr0).gLoad)] (by kernel_rfl) (by kernel_rfl) (by kernel_rfl) (fun j_ v_ hj_ => S2.cell (hc1 j_ v_ hj_))) ?_
    refine SL.ok (by decide) (OK.run 20 (.slice lb nb cb) (by kernel_rfl)) ?_
    refine SL.ok (by decide) (OK.run 21 (iv i) (by kernel_rfl)) ?_
    refine SL.ok (by decide) (OK.index 22 22 5 lb p2 nb (i).toNat i (p2.add ((i).toNat * 5)) (by kernel_rfl) (by kernel_rfl) hp2 (by omega) (by omega) rfl) ?_
    refine SL.ok (by decide) (OK.ldCells 23 27 (p2.add ((i).toNat * 5)) [iv ((xb.getD (i).toNat dr0).gAt), iv ((xb.getD (i).toNat dr0).gPedal), iv ((xb.getD (i).toNat dr0).gBrake), iv ((xb.getD (i).toNat dr0).gGear), iv ((xb.getD (i).toNat dr0).gLoad)] (by kernel_rfl) (by kernel_rfl) (by kernel_rfl) (fun j_ v_ hj_ => S2.cell (hc2 j_ v_ hj_))) ?_
    refine SL.ok (by decide) (OK.eqS 24 false 27 #[iv ((xa.getD (i).toNat dr0).gAt), iv ((xa.getD (i).toNat dr0).gPedal), iv ((xa.getD (i).toNat dr0).gBrake), iv ((xa.getD (i).toNat dr0).gGear), iv ((xa.getD (i).toNat dr0).gLoad)] #[iv ((xb.getD (i).toNat dr0).gAt), iv ((xb.getD (i).toNat dr0).gPedal), iv ((xb.getD (i).toNat dr0).gBrake), iv ((xb.getD (i).toNat dr0).gGear), iv ((xb.getD (i).toNat dr0).gLoad)] ((((xa.getD (i).toNat dr0).gAt) == ((xb.getD (i).toNat dr0).gAt)) && ((((xa.getD (i).toNat dr0).gPedal) == ((xb.getD (i).toNat dr0).gPedal)) && ((((xa.getD (i).toNat dr0).gBrake) == ((xb.getD (i).toNat dr0).gBrake)) && ((((xa.getD (i).toNat dr0).gGear) == ((xb.getD (i).toNat dr0).gGear)) && ((((xa.getD (i).toNat dr0).gLoad) == ((xb.getD (i).toNat dr0).gLoad)) && true))))) (by kernel_rfl) (by kernel_rfl) (by kernel_rfl) (!((((xa.getD (i).toNat dr0).gAt) == ((xb.getD (i).toNat dr0).gAt)) && ((((xa.getD (i).toNat dr0).gPedal) == ((xb.getD (i).toNat dr0).gPedal)) && ((((xa.getD (i).toNat dr0).gBrake) == ((xb.getD (i).toNat dr0).gBrake)) && ((((xa.getD (i).toNat dr0).gGear) == ((xb.getD (i).toNat dr0).gGear)) && (((xa.getD (i).toNat dr0).gLoad) == ((xb.getD (i).toNat dr0).gLoad))))))) (by simp)) ?_
    refine SL.done ?_
    refine TL.done (by kernel_rfl) ?_
    refine J.run 0 (rRest K20_3) [(24, .bool (!((((xa.getD (i).toNat dr0).gAt) == ((xb.getD (i).toNat dr0).gAt)) && ((((xa.getD (i).toNat dr0).gPedal) == ((xb.getD (i).toNat dr0).gPedal)) && ((((xa.getD (i).toNat dr0).gBrake) == ((xb.getD (i).toNat dr0).gBrake)) && ((((xa.getD (i).toNat dr0).gGear) == ((xb.getD (i).toNat dr0).gGear)) && (((xa.getD (i).toNat dr0).gLoad) == ((xb.getD (i).toNat dr0).gLoad)))))))), (13, iv i), (12, iv (na : Int)), (0, .slice la na ca), (1, .slice lb nb cb)] w2 (by kernel_rfl) ?_
    rcases Bool.eq_false_or_eq_true ((((xa.getD (i).toNat dr0).gAt) == ((xb.getD (i).toNat dr0).gAt)) && ((((xa.getD (i).toNat dr0).gPedal) == ((xb.getD (i).toNat dr0).gPedal)) && ((((xa.getD (i).toNat dr0).gBrake) == ((xb.getD (i).toNat dr0).gBrake)) && ((((xa.getD (i).toNat dr0).gGear) == ((xb.getD (i).toNat dr0).gGear)) && (((xa.getD (i).toNat dr0).gLoad) == ((xb.getD (i).toNat dr0).gLoad)))))) with fk3 | fk3
    ·skip
     refine J.head (.bool false) (congrArg Value.bool (by rw [fk3]; rfl)) ?_
     refine J.run 5 K20_4 [(25, iv (IntKind.wrap .i64 (i + 1))), (12, iv (na : Int)), (0, .slice la na ca), (1, .slice lb nb cb)] w2 (by kernel_rfl) ?_
     refine J.head (iv (i + 1)) (congrArg (Value.int .i64) (IntWalk.i64_in _ (by omega))) ?_
     refine J.run 3 K20_1 [(13, iv (i + 1)), (12, iv (na : Int)), (0, .slice la na ca), (1, .slice lb nb cb)] w2 (by kernel_rfl) ?_
     refine J.run 0 K20_1 [(13, iv (i + 1)), (12, iv (na : Int)), (0, .slice la na ca), (1, .slice lb nb cb)] w2 (by kernel_rfl) ?_
     exact ih1 _ (show ((na : Int) - (i + 1)).toNat < mm1 from by omega) (i + 1) w2 (by omega) (by omega) (by intro j hj; by_cases e_ : j = i.toNat; (subst e_; unfold eqDr; exact fk3); exact hq j (by omega)) S2 rfl
    ·skip
     refine J.head (.bool true) (congrArg Value.bool (by rw [fk3]; rfl)) ?_
     refine J.run 5 K20_5 [(4, .bool false)] w2 (by kernel_rfl) ?_
     refine J.ret Tryd.f20 [.bool false] Tryd.func20 ⟨by kernel_rfl, trivial⟩ ?_
     refine hR _ _ ?_
     exact ⟨congrArg Value.bool (sameDr_bad (j := i.toNat) (by omega) (by unfold eqDr; exact fk3)).symm, S2.nil⟩
   ·skip
    refine J.head (.bool false) (congrArg Value.bool (decide_eq_false fk2)) ?_
    refine J.run 6 K20_6 [(4, .bool true)] w1 (by kernel_rfl) ?_
    refine J.ret Tryd.f20 [.bool true] Tryd.func20 ⟨by kernel_rfl, trivial⟩ ?_
    refine hR _ _ ?_
    exact ⟨congrArg Value.bool (sameDr_yes (by omega) fun j hj => hq j (by omega)).symm, S1.nil⟩
  exact L20_1 _ 0 w (by omega) (by omega) (by intro j hj; simp at hj) S0 rfl
 ·skip
  refine J.head (.bool true) (congrArg Value.bool (bne_iff_ne.2 fk1)) ?_
  refine J.run 5 K20_7 [(4, .bool false)] w (by kernel_rfl) ?_
  refine J.ret Tryd.f20 [.bool false] Tryd.func20 ⟨by kernel_rfl, trivial⟩ ?_
  refine hR _ _ ?_
  exact ⟨congrArg Value.bool (sameDr_no (by omega)).symm, S0.nil⟩

noncomputable def K5_0 : List Item := adv 7 [] (bodyOf Tryd.f5)
noncomputable def K5_1 : List Item := adv 7 [] (popK K5_0)
noncomputable def K5_2 : List Item := adv 13 [true] K5_1
noncomputable def K5_3 : List Item := adv 2 [] (popK K5_2)
noncomputable def K5_4 : List Item := adv 4 [] K5_1
noncomputable def K5_5 : List Item := adv 6 [] K5_4
noncomputable def K5_6 : List Item := adv 3 [true] K5_5
noncomputable def K5_7 : List Item := adv 2 [] (popK K5_6)
noncomputable def K5_8 : List Item := adv 5 [false] K5_5
noncomputable def K5_9 : List Item := adv 9 [] (popK K5_8)
noncomputable def K5_10 : List Item := adv 4 [] (popK K5_9)
noncomputable def K5_11 : List Item := adv 1 [] (popK K5_10)
noncomputable def K5_12 : List Item := adv 5 [] (popK K5_11)
noncomputable def K5_13 : List Item := adv 4 [] (popK K5_12)
noncomputable def K5_14 : List Item := adv 1 [] (popK K5_13)
noncomputable def K5_15 : List Item := adv 7 [] (popK K5_14)
noncomputable def K5_16 : List Item := adv 2 [] (popK K5_15)
noncomputable def K5_17 : List Item := adv 5 [] (popK (popK (popK K5_16)))
noncomputable def K5_18 : List Item := adv 8 [false] K5_17
noncomputable def K5_19 : List Item := adv 2 [] (popK K5_18)
noncomputable def K5_20 : List Item := adv 6 [false] K5_19
noncomputable def K5_21 : List Item := adv 2 [] (popK K5_20)
noncomputable def K5_22 : List Item := adv 5 [] K5_21
noncomputable def K5_23 : List Item := adv 5 [true] K5_19
noncomputable def K5_24 : List Item := adv 1 [] K5_23
noncomputable def K5_25 : List Item := adv 5 [] K5_24
noncomputable def K5_26 : List Item := adv 11 [false] K5_4
noncomputable def K5_27 : List Item := adv 9 [] (popK K5_26)
noncomputable def K5_28 : List Item := adv 4 [] (popK K5_27)
noncomputable def K5_29 : List Item := adv 1 [] (popK K5_28)
noncomputable def K5_30 : List Item := adv 5 [] (popK K5_29)
noncomputable def K5_31 : List Item := adv 4 [] (popK K5_30)
noncomputable def K5_32 : List Item := adv 1 [] (popK K5_31)
noncomputable def K5_33 : List Item := adv 7 [] (popK K5_32)
noncomputable def K5_34 : List Item := adv 2 [] (popK K5_33)
noncomputable def K5_35 : List Item := adv 5 [] (popK (popK (popK K5_34)))
noncomputable def K5_36 : List Item := adv 8 [false] K5_35
noncomputable def K5_37 : List Item := adv 2 [] (popK K5_36)
noncomputable def K5_38 : List Item := adv 6 [false] K5_37
noncomputable def K5_39 : List Item := adv 2 [] (popK K5_38)
noncomputable def K5_40 : List Item := adv 5 [] K5_39
noncomputable def K5_41 : List Item := adv 5 [true] K5_37
noncomputable def K5_42 : List Item := adv 1 [] K5_41
noncomputable def K5_43 : List Item := adv 5 [] K5_42
set_option maxRecDepth 20000 in
set_option maxHeartbeats 20000000 in
theorem lawtexts_any (a : Option Addr) (n c : Nat) (l : List Dr) (s : ByteArray) (w : World) (hl : Recs drE 5 w a n l) (hs : s.size ≤ 9223372036854775807) (hW : TabW w) : Ret Tryd.prog 5 #[.slice a n c, .string s] w (fun v w' => v = .bool true ∧ Sep w [] w') := by
 have S0 := Sep.refl w
 refine Ret.named fun R hR => ?_
 refine Ret.of_J (N := 79) [(0, .slice a n c), (1, .string s)] Tryd.func5 rfl rfl (Nat.le_of_ble_eq_true (by kernel_rfl)) (by kernel_rfl) ?_
 have hll := hl.len_eq
 refine J.run 7 K5_0 [(0, .slice a n c), (1, .string s)] w (by kernel_rfl) ?_
 refine J.callF 13 8 #[] hb8 (by kernel_rfl) (awake_any  _ (tabW_sep hW S0)) ?_
 rintro _ w1 ⟨rfl, T1⟩
 have S1 : Sep w [] w1 := S0.trans T1
 clear T1
 refine J.run 7 K5_1 [(20, .bool (decide ((n : Int) > 250))), (0, .slice a n c), (1, .string s)] w1 (by kernel_rfl) ?_
 by_cases fk1 : (n : Int) > 250
 ·skip
  refine J.head (.bool true) (congrArg Value.bool (decide_eq_true fk1)) ?_
  refine J.run 13 K5_2 [] w1 (by kernel_rfl) ?_
  refine J.callF 30 8 #[] hb8 (by kernel_rfl) (awake_any  _ (tabW_sep hW S1)) ?_
  rintro _ w2 ⟨rfl, T2⟩
  have S2 : Sep w [] w2 := S1.trans T2
  clear T2 S1
  refine J.run 2 K5_3 [(4, .bool true)] w2 (by kernel_rfl) ?_
  refine J.ret Tryd.f5 [.bool true] Tryd.func5 ⟨by kernel_rfl, trivial⟩ ?_
  refine hR _ _ ?_
  exact ⟨rfl, S2.nil⟩
 ·skip
  refine J.head (.bool false) (congrArg Value.bool (decide_eq_false fk1)) ?_
  refine J.run 4 K5_4 [(24, .bool (decide ((s.size : Int) > 4000))), (20, .bool false), (0, .slice a n c), (1, .string s)] w1 (by kernel_rfl) ?_
  by_cases fk2 : (s.size : Int) > 4000
  ·skip
   refine J.head (.bool true) (congrArg Value.bool (decide_eq_true fk2)) ?_
   refine J.run 6 K5_5 [(29, .bool (decide ((s.size : Int) ≤ 16384))), (0, .slice a n c), (1, .string s)] w1 (by kernel_rfl) ?_
   by_cases fk3 : (s.size : Int) ≤ 16384
   ·skip
    refine J.head (.bool true) (congrArg Value.bool (decide_eq_true fk3)) ?_
    refine J.run 3 K5_6 [] w1 (by kernel_rfl) ?_
    refine J.callF 30 8 #[] hb8 (by kernel_rfl) (awake_any  _ (tabW_sep hW S1)) ?_
    rintro _ w3 ⟨rfl, T3⟩
    have S3 : Sep w [] w3 := S1.trans T3
    clear T3 S1
    refine J.run 2 K5_7 [(4, .bool true)] w3 (by kernel_rfl) ?_
    refine J.ret Tryd.f5 [.bool true] Tryd.func5 ⟨by kernel_rfl, trivial⟩ ?_
    refine hR _ _ ?_
    exact ⟨rfl, S3.nil⟩
   ·skip
    refine J.head (.bool false) (congrArg Value.bool (decide_eq_false fk3)) ?_
    refine J.run 5 K5_8 [(32, .slice a n c), (0, .slice a n c), (1, .string s)] w1 (by kernel_rfl) ?_
    refine J.callF 33 17 #[.slice a n c] hb17 (by kernel_rfl) (text_any a n c l _ (hl.sep S1) (tabW_sep hW S1)) ?_
    rintro _ w4 ⟨rfl, T4⟩
    have S4 : Sep w [] w4 := S1.trans T4
    clear T4 S1
    refine J.run 9 K5_9 [(37, .string s), (6, iv (textE l)), (5, .string (textD l)), (0, .slice a n c), (1, .string s)] w4 (by kernel_rfl) ?_
    refine J.callF 38 18 #[.string s] hb18 (by kernel_rfl) (parse_any s _ (by omega) (tabW_sep hW S4)) ?_
    rintro _ w5 ⟨ra1, rc1, rfl, T5⟩
    have S5 : Sep w [rowOf drE ra1 rc1 27 5 ((parF s).l)] w5 := S4.trans T5
    clear T5 S4
    refine J.run 4 K5_10 [(41, iv ((parF s).e)), (40, .agg #[iv ((parF s).pl), iv ((parF s).pc)]), (39, .slice ra1 (((parF s).l).length) rc1), (6, iv (textE l)), (5, .string (textD l)), (0, .slice a n c), (1, .string s)] w5 (by kernel_rfl) ?_
    refine J.new S5 8 [iv 0, iv 0] 39 (by kernel_rfl) ?_
    intro b1 w6 S6
    refine J.run 1 K5_11 [(7, .slice ra1 (((parF s).l).length) rc1), (8, .pointer (some ⟨b1, 0, none⟩)), (41, iv ((parF s).e)), (40, .agg #[iv ((parF s).pl), iv ((parF s).pc)]), (6, iv (textE l)), (5, .string (textD l)), (0, .slice a n c), (1, .string s)] w6 (by kernel_rfl) ?_
    refine J.stBox S6 0 39 0 (.agg #[iv ((parF s).pl), iv ((parF s).pc)]) [iv ((parF s).pl), iv ((parF s).pc)] [box b1 [iv ((parF s).pl), iv ((parF s).pc)] 39, rowOf drE ra1 rc1 27 5 ((parF s).l)] (by kernel_rfl) rfl (by kernel_rfl) (by kernel_rfl) rfl ?_
    intro w7 S7
    refine J.run 5 K5_12 [(43, .string s), (9, iv ((parF s).e)), (7, .slice ra1 (((parF s).l).length) rc1), (8, .pointer (some ⟨b1, 0, none⟩)), (6, iv (textE l)), (5, .string (textD l)), (0, .slice a n c)] w7 (by kernel_rfl) ?_
    refine J.callF 44 19 #[.string s] hb19 (by kernel_rfl) (rparse28_any s _ (by omega)) ?_
    rintro _ w8 ⟨ra2, rc2, rfl, T6⟩
    have S8 : Sep w [rowOf drE ra2 rc2 27 5 ((parF s).l), box b1 [iv ((parF s).pl), iv ((parF s).pc)] 39, rowOf drE ra1 rc1 27 5 ((parF s).l)] w8 := S7.trans T6
    clear T6 S7
    refine J.run 4 K5_13 [(47, iv ((parF s).e)), (46, .agg #[iv ((parF s).pl), iv ((parF s).pc)]), (45, .slice ra2 (((parF s).l).length) rc2), (9, iv ((parF s).e)), (7, .slice ra1 (((parF s).l).length) rc1), (8, .pointer (some ⟨b1, 0, none⟩)), (6, iv (textE l)), (5, .string (textD l)), (0, .slice a n c)] w8 (by kernel_rfl) ?_
    refine J.new S8 11 [iv 0, iv 0] 39 (by kernel_rfl) ?_
    intro b2 w9 S9
    refine J.run 1 K5_14 [(10, .slice ra2 (((parF s).l).length) rc2), (11, .pointer (some ⟨b2, 0, none⟩)), (47, iv ((parF s).e)), (46, .agg #[iv ((parF s).pl), iv ((parF s).pc)]), (9, iv ((parF s).e)), (7, .slice ra1 (((parF s).l).length) rc1), (8, .pointer (some ⟨b1, 0, none⟩)), (6, iv (textE l)), (5, .string (textD l)), (0, .slice a n c)] w9 (by kernel_rfl) ?_
    refine J.stBox S9 0 39 0 (.agg #[iv ((parF s).pl), iv ((parF s).pc)]) [iv ((parF s).pl), iv ((parF s).pc)] [box b2 [iv ((parF s).pl), iv ((parF s).pc)] 39, rowOf drE ra2 rc2 27 5 ((parF s).l), box b1 [iv ((parF s).pl), iv ((parF s).pc)] 39, rowOf drE ra1 rc1 27 5 ((parF s).l)] (by kernel_rfl) rfl (by kernel_rfl) (by kernel_rfl) rfl ?_
    intro w10 S10
    refine J.run 7 K5_15 [(49, .slice ra2 (((parF s).l).length) rc2), (48, .slice ra1 (((parF s).l).length) rc1), (12, iv ((parF s).e)), (11, .pointer (some ⟨b2, 0, none⟩)), (9, iv ((parF s).e)), (8, .pointer (some ⟨b1, 0, none⟩)), (6, iv (textE l)), (5, .string (textD l)), (0, .slice a n c)] w10 (by kernel_rfl) ?_
    have := rowOf_len (S10.nth 3 rfl)
    have := rowOf_len (S10.nth 1 rfl)
    refine J.callF 50 20 #[.slice ra1 (((parF s).l).length) rc1, .slice ra2 (((parF s).l).length) rc2] hb20 (by kernel_rfl) (equalDr_any ra1 (((parF s).l).length) rc1 ((parF s).l) ra2 (((parF s).l).length) rc2 ((parF s).l) _ ((rowOf_recs (S10.nth 3 rfl) _ rfl (fun _ => rfl) (by decide))) ((rowOf_recs (S10.nth 1 rfl) _ rfl (fun _ => rfl) (by decide))) (by first | omega | (simp; omega))) ?_
    rintro _ w11 ⟨rfl, T7⟩
    have S11 : Sep w [box b2 [iv ((parF s).pl), iv ((parF s).pc)] 39, rowOf drE ra2 rc2 27 5 ((parF s).l), box b1 [iv ((parF s).pl), iv ((parF s).pc)] 39, rowOf drE ra1 rc1 27 5 ((parF s).l)] w11 := S10.trans T7
    clear T7 S10
    refine J.head (.bool true) (congrArg Value.bool (sameDr_refl _)) ?_
    refine J.run 2 K5_16 [(52, .bool false), (12, iv ((parF s).e)), (11, .pointer (some ⟨b2, 0, none⟩)), (9, iv ((parF s).e)), (8, .pointer (some ⟨b1, 0, none⟩)), (6, iv (textE l)), (5, .string (textD l)), (0, .slice a n c)] w11 (by kernel_rfl) ?_
    refine J.ok (OK.ldBox S11 2 53 39 0 (.agg #[iv ((parF s).pl), iv ((parF s).pc)]) (by kernel_rfl) rfl (by kernel_rfl)) ?_
    refine J.ok (OK.ldBox S11 0 54 39 0 (.agg #[iv ((parF s).pl), iv ((parF s).pc)]) (by kernel_rfl) rfl (by kernel_rfl)) ?_
    refine J.ok (OK.eqS 55 false 39 #[iv ((parF s).pl), iv ((parF s).pc)] #[iv ((parF s).pl), iv ((parF s).pc)] ((((parF s).pl) == ((parF s).pl)) && ((((parF s).pc) == ((parF s).pc)) && true)) (by kernel_rfl) (by kernel_rfl) (by kernel_rfl) false (by simp)) ?_
    refine J.run 5 K5_17 [(60, .bool (((parF s).e) != ((parF s).e))), (57, .bool false), (6, iv (textE l)), (5, .string (textD l)), (0, .slice a n c)] w11 (by kernel_rfl) ?_
    refine J.head (.bool false) (congrArg Value.bool (by simp)) ?_
    refine J.run 8 K5_18 [(62, .slice a n c), (6, iv (textE l)), (5, .string (textD l)), (0, .slice a n c)] w11 (by kernel_rfl) ?_
    refine J.callF 63 13 #[.slice a n c] hb13 (by kernel_rfl) (rvalid_any a n c l _ (hl.sep S11)) ?_
    rintro _ w12 ⟨rfl, T8⟩
    have S12 : Sep w [box b2 [iv ((parF s).pl), iv ((parF s).pc)] 39, rowOf drE ra2 rc2 27 5 ((parF s).l), box b1 [iv ((parF s).pl), iv ((parF s).pc)] 39, rowOf drE ra1 rc1 27 5 ((parF s).l)] w12 := S11.trans T8
    clear T8 S11
    refine J.run 2 K5_19 [(64, .bool (!(validD l))), (6, iv (textE l)), (5, .string (textD l)), (0, .slice a n c)] w12 (by kernel_rfl) ?_
    rcases Bool.eq_false_or_eq_true (validD l) with fk4 | fk4
    ·skip
     refine J.head (.bool false) (congrArg Value.bool (by rw [fk4]; rfl)) ?_
     have hv := fk4
     refine J.run 6 K5_20 [(72, .slice a n c), (71, .string (textD l)), (6, iv (textE l))] w12 (by kernel_rfl) ?_
     refine J.callF 73 21 #[.slice a n c] hb21 (by kernel_rfl) (rtext28_any a n c l _ (hl.sep S12) hv) ?_
     rintro _ w13 ⟨rfl, T9⟩
     have S13 : Sep w [box b2 [iv ((parF s).pl), iv ((parF s).pc)] 39, rowOf drE ra2 rc2 27 5 ((parF s).l), box b1 [iv ((parF s).pl), iv ((parF s).pc)] 39, rowOf drE ra1 rc1 27 5 ((parF s).l)] w13 := S12.trans T9
     clear T9 S12
     refine J.run 2 K5_21 [(75, .bool ((textD l).toList == (linesD l l.length).toList)), (6, iv (textE l))] w13 (by kernel_rfl) ?_
     have fk6 : ((textD l).toList == (linesD l l.length).toList) = true := (by rw [text_yes fk4]; exact beq_self_eq_true _)
     refine J.head (.bool true) (congrArg Value.bool fk6) ?_
     refine J.run 5 K5_22 [(4, .bool ((textE l) == 0))] w13 (by kernel_rfl) ?_
     refine J.ret Tryd.f5 [.bool ((textE l) == 0)] Tryd.func5 ⟨by kernel_rfl, trivial⟩ ?_
     refine hR _ _ ?_
     have fk7 : (textE l) = 0 := (texte_yes fk4)
     exact ⟨congrArg Value.bool (beq_iff_eq.2 fk7), S13.nil⟩
    ·skip
     refine J.head (.bool true) (congrArg Value.bool (by rw [fk4]; rfl)) ?_
     refine J.run 5 K5_23 [(66, .bool ((textD l).toList == (⟨#[]⟩ : ByteArray).toList)), (6, iv (textE l))] w12 (by kernel_rfl) ?_
     refine J.head (.bool (((textD l).size : Int) == 0)) (congrArg Value.bool (beq_nil_eql _)) ?_
     refine J.run 1 K5_24 [(67, .bool (((textD l).size : Int) == 0)), (6, iv (textE l))] w12 (by kernel_rfl) ?_
     have fk9 : ((textD l).size : Int) = 0 := (by rw [text_no fk4]; rfl)
     refine J.head (.bool true) (congrArg Value.bool (beq_iff_eq.2 fk9)) ?_
     refine J.run 5 K5_25 [(4, .bool ((textE l) == 1))] w12 (by kernel_rfl) ?_
     refine J.ret Tryd.f5 [.bool ((textE l) == 1)] Tryd.func5 ⟨by kernel_rfl, trivial⟩ ?_
     refine hR _ _ ?_
     have fk10 : (textE l) = 1 := (texte_no fk4)
     exact ⟨congrArg Value.bool (beq_iff_eq.2 fk10), S12.nil⟩
  ·skip
   refine J.head (.bool false) (congrArg Value.bool (decide_eq_false fk2)) ?_
   refine J.run 11 K5_26 [(32, .slice a n c), (0, .slice a n c), (1, .string s)] w1 (by kernel_rfl) ?_
   refine J.callF 33 17 #[.slice a n c] hb17 (by kernel_rfl) (text_any a n c l _ (hl.sep S1) (tabW_sep hW S1)) ?_
   rintro _ w14 ⟨rfl, T10⟩
   have S14 : Sep w [] w14 := S1.trans T10
   clear T10 S1
   refine J.run 9 K5_27 [(37, .string s), (6, iv (textE l)), (5, .string (textD l)), (0, .slice a n c), (1, .string s)] w14 (by kernel_rfl) ?_
   refine J.callF 38 18 #[.string s] hb18 (by kernel_rfl) (parse_any s _ (by omega) (tabW_sep hW S14)) ?_
   rintro _ w15 ⟨ra3, rc3, rfl, T11⟩
   have S15 : Sep w [rowOf drE ra3 rc3 27 5 ((parF s).l)] w15 := S14.trans T11
   clear T11 S14
   refine J.run 4 K5_28 [(41, iv ((parF s).e)), (40, .agg #[iv ((parF s).pl), iv ((parF s).pc)]), (39, .slice ra3 (((parF s).l).length) rc3), (6, iv (textE l)), (5, .string (textD l)), (0, .slice a n c), (1, .string s)] w15 (by kernel_rfl) ?_
   refine J.new S15 8 [iv 0, iv 0] 39 (by kernel_rfl) ?_
   intro b3 w16 S16
   refine J.run 1 K5_29 [(7, .slice ra3 (((parF s).l).length) rc3), (8, .pointer (some ⟨b3, 0, none⟩)), (41, iv ((parF s).e)), (40, .agg #[iv ((parF s).pl), iv ((parF s).pc)]), (6, iv (textE l)), (5, .string (textD l)), (0, .slice a n c), (1, .string s)] w16 (by kernel_rfl) ?_
   refine J.stBox S16 0 39 0 (.agg #[iv ((parF s).pl), iv ((parF s).pc)]) [iv ((parF s).pl), iv ((parF s).pc)] [box b3 [iv ((parF s).pl), iv ((parF s).pc)] 39, rowOf drE ra3 rc3 27 5 ((parF s).l)] (by kernel_rfl) rfl (by kernel_rfl) (by kernel_rfl) rfl ?_
   intro w17 S17
   refine J.run 5 K5_30 [(43, .string s), (9, iv ((parF s).e)), (7, .slice ra3 (((parF s).l).length) rc3), (8, .pointer (some ⟨b3, 0, none⟩)), (6, iv (textE l)), (5, .string (textD l)), (0, .slice a n c)] w17 (by kernel_rfl) ?_
   refine J.callF 44 19 #[.string s] hb19 (by kernel_rfl) (rparse28_any s _ (by omega)) ?_
   rintro _ w18 ⟨ra4, rc4, rfl, T12⟩
   have S18 : Sep w [rowOf drE ra4 rc4 27 5 ((parF s).l), box b3 [iv ((parF s).pl), iv ((parF s).pc)] 39, rowOf drE ra3 rc3 27 5 ((parF s).l)] w18 := S17.trans T12
   clear T12 S17
   refine J.run 4 K5_31 [(47, iv ((parF s).e)), (46, .agg #[iv ((parF s).pl), iv ((parF s).pc)]), (45, .slice ra4 (((parF s).l).length) rc4), (9, iv ((parF s).e)), (7, .slice ra3 (((parF s).l).length) rc3), (8, .pointer (some ⟨b3, 0, none⟩)), (6, iv (textE l)), (5, .string (textD l)), (0, .slice a n c)] w18 (by kernel_rfl) ?_
   refine J.new S18 11 [iv 0, iv 0] 39 (by kernel_rfl) ?_
   intro b4 w19 S19
   refine J.run 1 K5_32 [(10, .slice ra4 (((parF s).l).length) rc4), (11, .pointer (some ⟨b4, 0, none⟩)), (47, iv ((parF s).e)), (46, .agg #[iv ((parF s).pl), iv ((parF s).pc)]), (9, iv ((parF s).e)), (7, .slice ra3 (((parF s).l).length) rc3), (8, .pointer (some ⟨b3, 0, none⟩)), (6, iv (textE l)), (5, .string (textD l)), (0, .slice a n c)] w19 (by kernel_rfl) ?_
   refine J.stBox S19 0 39 0 (.agg #[iv ((parF s).pl), iv ((parF s).pc)]) [iv ((parF s).pl), iv ((parF s).pc)] [box b4 [iv ((parF s).pl), iv ((parF s).pc)] 39, rowOf drE ra4 rc4 27 5 ((parF s).l), box b3 [iv ((parF s).pl), iv ((parF s).pc)] 39, rowOf drE ra3 rc3 27 5 ((parF s).l)] (by kernel_rfl) rfl (by kernel_rfl) (by kernel_rfl) rfl ?_
   intro w20 S20
   refine J.run 7 K5_33 [(49, .slice ra4 (((parF s).l).length) rc4), (48, .slice ra3 (((parF s).l).length) rc3), (12, iv ((parF s).e)), (11, .pointer (some ⟨b4, 0, none⟩)), (9, iv ((parF s).e)), (8, .pointer (some ⟨b3, 0, none⟩)), (6, iv (textE l)), (5, .string (textD l)), (0, .slice a n c)] w20 (by kernel_rfl) ?_
   have := rowOf_len (S20.nth 3 rfl)
   have := rowOf_len (S20.nth 1 rfl)
   refine J.callF 50 20 #[.slice ra3 (((parF s).l).length) rc3, .slice ra4 (((parF s).l).length) rc4] hb20 (by kernel_rfl) (equalDr_any ra3 (((parF s).l).length) rc3 ((parF s).l) ra4 (((parF s).l).length) rc4 ((parF s).l) _ ((rowOf_recs (S20.nth 3 rfl) _ rfl (fun _ => rfl) (by decide))) ((rowOf_recs (S20.nth 1 rfl) _ rfl (fun _ => rfl) (by decide))) (by first | omega | (simp; omega))) ?_
   rintro _ w21 ⟨rfl, T13⟩
   have S21 : Sep w [box b4 [iv ((parF s).pl), iv ((parF s).pc)] 39, rowOf drE ra4 rc4 27 5 ((parF s).l), box b3 [iv ((parF s).pl), iv ((parF s).pc)] 39, rowOf drE ra3 rc3 27 5 ((parF s).l)] w21 := S20.trans T13
   clear T13 S20
   refine J.head (.bool true) (congrArg Value.bool (sameDr_refl _)) ?_
   refine J.run 2 K5_34 [(52, .bool false), (12, iv ((parF s).e)), (11, .pointer (some ⟨b4, 0, none⟩)), (9, iv ((parF s).e)), (8, .pointer (some ⟨b3, 0, none⟩)), (6, iv (textE l)), (5, .string (textD l)), (0, .slice a n c)] w21 (by kernel_rfl) ?_
   refine J.ok (OK.ldBox S21 2 53 39 0 (.agg #[iv ((parF s).pl), iv ((parF s).pc)]) (by kernel_rfl) rfl (by kernel_rfl)) ?_
   refine J.ok (OK.ldBox S21 0 54 39 0 (.agg #[iv ((parF s).pl), iv ((parF s).pc)]) (by kernel_rfl) rfl (by kernel_rfl)) ?_
   refine J.ok (OK.eqS 55 false 39 #[iv ((parF s).pl), iv ((parF s).pc)] #[iv ((parF s).pl), iv ((parF s).pc)] ((((parF s).pl) == ((parF s).pl)) && ((((parF s).pc) == ((parF s).pc)) && true)) (by kernel_rfl) (by kernel_rfl) (by kernel_rfl) false (by simp)) ?_
   refine J.run 5 K5_35 [(60, .bool (((parF s).e) != ((parF s).e))), (57, .bool false), (6, iv (textE l)), (5, .string (textD l)), (0, .slice a n c)] w21 (by kernel_rfl) ?_
   refine J.head (.bool false) (congrArg Value.bool (by simp)) ?_
   refine J.run 8 K5_36 [(62, .slice a n c), (6, iv (textE l)), (5, .string (textD l)), (0, .slice a n c)] w21 (by kernel_rfl) ?_
   refine J.callF 63 13 #[.slice a n c] hb13 (by kernel_rfl) (rvalid_any a n c l _ (hl.sep S21)) ?_
   rintro _ w22 ⟨rfl, T14⟩
   have S22 : Sep w [box b4 [iv ((parF s).pl), iv ((parF s).pc)] 39, rowOf drE ra4 rc4 27 5 ((parF s).l), box b3 [iv ((parF s).pl), iv ((parF s).pc)] 39, rowOf drE ra3 rc3 27 5 ((parF s).l)] w22 := S21.trans T14
   clear T14 S21
   refine J.run 2 K5_37 [(64, .bool (!(validD l))), (6, iv (textE l)), (5, .string (textD l)), (0, .slice a n c)] w22 (by kernel_rfl) ?_
   rcases Bool.eq_false_or_eq_true (validD l) with fk11 | fk11
   ·skip
    refine J.head (.bool false) (congrArg Value.bool (by rw [fk11]; rfl)) ?_
    have hv := fk11
    refine J.run 6 K5_38 [(72, .slice a n c), (71, .string (textD l)), (6, iv (textE l))] w22 (by kernel_rfl) ?_
    refine J.callF 73 21 #[.slice a n c] hb21 (by kernel_rfl) (rtext28_any a n c l _ (hl.sep S22) hv) ?_
    rintro _ w23 ⟨rfl, T15⟩
    have S23 : Sep w [box b4 [iv ((parF s).pl), iv ((parF s).pc)] 39, rowOf drE ra4 rc4 27 5 ((parF s).l), box b3 [iv ((parF s).pl), iv ((parF s).pc)] 39, rowOf drE ra3 rc3 27 5 ((parF s).l)] w23 := S22.trans T15
    clear T15 S22
    refine J.run 2 K5_39 [(75, .bool ((textD l).toList == (linesD l l.length).toList)), (6, iv (textE l))] w23 (by kernel_rfl) ?_
    have fk13 : ((textD l).toList == (linesD l l.length).toList) = true := (by rw [text_yes fk11]; exact beq_self_eq_true _)
    refine J.head (.bool true) (congrArg Value.bool fk13) ?_
    refine J.run 5 K5_40 [(4, .bool ((textE l) == 0))] w23 (by kernel_rfl) ?_
    refine J.ret Tryd.f5 [.bool ((textE l) == 0)] Tryd.func5 ⟨by kernel_rfl, trivial⟩ ?_
    refine hR _ _ ?_
    have fk14 : (textE l) = 0 := (texte_yes fk11)
    exact ⟨congrArg Value.bool (beq_iff_eq.2 fk14), S23.nil⟩
   ·skip
    refine J.head (.bool true) (congrArg Value.bool (by rw [fk11]; rfl)) ?_
    refine J.run 5 K5_41 [(66, .bool ((textD l).toList == (⟨#[]⟩ : ByteArray).toList)), (6, iv (textE l))] w22 (by kernel_rfl) ?_
    refine J.head (.bool (((textD l).size : Int) == 0)) (congrArg Value.bool (beq_nil_eql _)) ?_
    refine J.run 1 K5_42 [(67, .bool (((textD l).size : Int) == 0)), (6, iv (textE l))] w22 (by kernel_rfl) ?_
    have fk16 : ((textD l).size : Int) = 0 := (by rw [text_no fk11]; rfl)
    refine J.head (.bool true) (congrArg Value.bool (beq_iff_eq.2 fk16)) ?_
    refine J.run 5 K5_43 [(4, .bool ((textE l) == 1))] w22 (by kernel_rfl) ?_
    refine J.ret Tryd.f5 [.bool ((textE l) == 1)] Tryd.func5 ⟨by kernel_rfl, trivial⟩ ?_
    refine hR _ _ ?_
    have fk17 : (textE l) = 1 := (texte_no fk11)
    exact ⟨congrArg Value.bool (beq_iff_eq.2 fk17), S22.nil⟩

end Go.Proofs.YthhdaackhfffiaaDoor

