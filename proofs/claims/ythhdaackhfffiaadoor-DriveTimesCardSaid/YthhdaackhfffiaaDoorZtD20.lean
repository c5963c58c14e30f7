/- Walks of functions of this seat, printed by a program over the engine. Conditions: as each theorem says. -/
import Derived.Test.YthhdaackhfffiaaDoorZtD15
namespace Go.Proofs.YthhdaackhfffiaaDoor
open Go.Eng Go.RowKit
set_option linter.unusedSimpArgs false
set_option linter.unusedVariables false
abbrev kvD20_1 : Array Value := #[.int .i64 0, .int .i64 0, .int .i64 0, .int .i64 0, .int .i64 0]
def awL : List Dr := [⟨0, 0, 0, 0, 0⟩, ⟨1000, 300, 0, 3, -200⟩]
theorem par_lit : parF (⟨#[97, 116, 32, 48, 32, 112, 101, 100, 97, 108, 32, 48, 32, 98, 114, 97, 107, 101, 32, 48, 32, 103, 101, 97, 114, 32, 48, 32, 108, 111, 97, 100, 32, 48, 10, 97, 116, 32, 49, 48, 48, 48, 32, 112, 101, 100, 97, 108, 32, 51, 48, 48, 32, 98, 114, 97, 107, 101, 32, 48, 32, 103, 101, 97, 114, 32, 51, 32, 108, 111, 97, 100, 32, 45, 50, 48, 48, 10]⟩ : ByteArray) = ⟨awL, 0, 0, 0⟩ := by kernel_rfl
theorem parse_lit (w : World) (hW : TabW w) : Ret Tryd.prog 18 #[.string (⟨#[97, 116, 32, 48, 32, 112, 101, 100, 97, 108, 32, 48, 32, 98, 114, 97, 107, 101, 32, 48, 32, 103, 101, 97, 114, 32, 48, 32, 108, 111, 97, 100, 32, 48, 10, 97, 116, 32, 49, 48, 48, 48, 32, 112, 101, 100, 97, 108, 32, 51, 48, 48, 32, 98, 114, 97, 107, 101, 32, 48, 32, 103, 101, 97, 114, 32, 51, 32, 108, 111, 97, 100, 32, 45, 50, 48, 48, 10]⟩ : ByteArray)] w (fun v w' => ∃ a cap, v = .tuple #[.slice a awL.length cap, .agg #[.int .i64 0, .int .i64 0], .int .i64 0] ∧ Sep w [rowOf drE a cap 27 5 awL] w') := by
  have h := parse_any (⟨#[97, 116, 32, 48, 32, 112, 101, 100, 97, 108, 32, 48, 32, 98, 114, 97, 107, 101, 32, 48, 32, 103, 101, 97, 114, 32, 48, 32, 108, 111, 97, 100, 32, 48, 10, 97, 116, 32, 49, 48, 48, 48, 32, 112, 101, 100, 97, 108, 32, 51, 48, 48, 32, 98, 114, 97, 107, 101, 32, 48, 32, 103, 101, 97, 114, 32, 51, 32, 108, 111, 97, 100, 32, 45, 50, 48, 48, 10]⟩ : ByteArray) w (by decide) hW
  rw [par_lit] at h
  exact h

theorem hb8 : HasBody Tryd.prog 8 := fun _ _ => by kernel_rfl
noncomputable def K8_0 : List Item := adv 6 [] (bodyOf Tryd.f8)
noncomputable def K8_1 : List Item := adv 4 [] (popK K8_0)
noncomputable def K8_2 : List Item := adv 1 [] (popK K8_1)
noncomputable def K8_3 : List Item := adv 5 [] (popK K8_2)
noncomputable def K8_4 : List Item := adv 3 [] (popK K8_3)
noncomputable def K8_5 : List Item := adv 5 [] (popK (popK K8_4))
noncomputable def K8_6 : List Item := adv 3 [] (popK K8_5)
noncomputable def K8_7 : List Item := adv 11 [] (popK (popK K8_6))
noncomputable def K8_8 : List Item := adv 4 [] K8_7
noncomputable def K8_9 : List Item := adv 1 [] (popK K8_8)
noncomputable def K8_10 : List Item := adv 2 [] (popK K8_9)
noncomputable def K8_11 : List Item := adv 1 [] (popK K8_10)
noncomputable def K8_12 : List Item := adv 3 [] (popK K8_11)
set_option maxRecDepth 20000 in
set_option maxHeartbeats 20000000 in
theorem awake_any  (w : World) (hW : TabW w) : Ret Tryd.prog 8 #[] w (fun v w' => v = .bool true ∧ Sep w [] w') := by
 have S0 := Sep.refl w
 refine Ret.named fun R hR => ?_
 refine Ret.of_J (N := 43) [] Tryd.func8 rfl rfl (Nat.le_of_ble_eq_true (by kernel_rfl)) (by kernel_rfl) ?_
 have hawl : awL.length = 2 := rfl
 refine J.run 6 K8_0 [] w (by kernel_rfl) ?_
 refine J.callF 9 18 #[.string ⟨#[97, 116, 32, 48, 32, 112, 101, 100, 97, 108, 32, 48, 32, 98, 114, 97, 107, 101, 32, 48, 32, 103, 101, 97, 114, 32, 48, 32, 108, 111, 97, 100, 32, 48, 10, 97, 116, 32, 49, 48, 48, 48, 32, 112, 101, 100, 97, 108, 32, 51, 48, 48, 32, 98, 114, 97, 107, 101, 32, 48, 32, 103, 101, 97, 114, 32, 51, 32, 108, 111, 97, 100, 32, 45, 50, 48, 48, 10]⟩] hb18 (by kernel_rfl) (parse_lit  _ (tabW_sep hW S0)) ?_
 rintro _ w1 ⟨ra1, rc1, rfl, T1⟩
 have S1 : Sep w [rowOf drE ra1 rc1 27 5 awL] w1 := S0.trans T1
 clear T1
 refine J.run 4 K8_1 [(12, .int .i64 0), (11, .agg #[.int .i64 0, .int .i64 0]), (10, .slice ra1 awL.length rc1)] w1 (by kernel_rfl) ?_
 refine J.new S1 2 [.int .i64 0, .int .i64 0] 39 (by kernel_rfl) ?_
 intro b1 w2 S2
 refine J.run 1 K8_2 [(1, .slice ra1 awL.length rc1), (2, .pointer (some ⟨b1, 0, none⟩)), (12, .int .i64 0), (11, .agg #[.int .i64 0, .int .i64 0])] w2 (by kernel_rfl) ?_
 refine J.stBox S2 0 39 0 (.agg #[.int .i64 0, .int .i64 0]) [.int .i64 0, .int .i64 0] [box b1 [.int .i64 0, .int .i64 0] 39, rowOf drE ra1 rc1 27 5 awL] (by kernel_rfl) rfl (by kernel_rfl) (by kernel_rfl) rfl ?_
 intro w3 S3
 refine J.run 5 K8_3 [(14, .slice ra1 awL.length rc1), (3, .int .i64 0), (1, .slice ra1 awL.length rc1)] w3 (by kernel_rfl) ?_
 refine J.callF 15 10 #[.slice ra1 awL.length rc1, .int .i64 999] hb10 (by kernel_rfl) (at_any ra1 awL.length rc1 awL 999 _ ((rowOf_recs (S3.nth 1 rfl) _ rfl (fun _ => rfl) (by decide)))) ?_
 rintro _ w4 ⟨rfl, T2⟩
 have S4 : Sep w [box b1 [.int .i64 0, .int .i64 0] 39, rowOf drE ra1 rc1 27 5 awL] w4 := S3.trans T2
 clear T2 S3
 refine J.run 3 K8_4 [(17, .int .i64 (fndE awL 999)), (16, .agg #[.int .i64 ((atD awL 999).gAt), .int .i64 ((atD awL 999).gPedal), .int .i64 ((atD awL 999).gBrake), .int .i64 ((atD awL 999).gGear), .int .i64 ((atD awL 999).gLoad)]), (3, .int .i64 0), (1, .slice ra1 awL.length rc1)] w4 (by kernel_rfl) ?_
 refine J.new S4 4 [.int .i64 0, .int .i64 0, .int .i64 0, .int .i64 0, .int .i64 0] 27 (by kernel_rfl) ?_
 intro b2 w5 S5
 refine J.stBox S5 0 27 0 (.agg #[.int .i64 ((atD awL 999).gAt), .int .i64 ((atD awL 999).gPedal), .int .i64 ((atD awL 999).gBrake), .int .i64 ((atD awL 999).gGear), .int .i64 ((atD awL 999).gLoad)]) [.int .i64 ((atD awL 999).gAt), .int .i64 ((atD awL 999).gPedal), .int .i64 ((atD awL 999).gBrake), .int .i64 ((atD awL 999).gGear), .int .i64 ((atD awL 999).gLoad)] [box b2 [.int .i64 ((atD awL 999).gAt), .int .i64 ((atD awL 999).gPedal), .int .i64 ((atD awL 999).gBrake), .int .i64 ((atD awL 999).gGear), .int .i64 ((atD awL 999).gLoad)] 27, box b1 [.int .i64 0, .int .i64 0] 39, rowOf drE ra1 rc1 27 5 awL] (by kernel_rfl) rfl (by kernel_rfl) (by kernel_rfl) rfl ?_
 intro w6 S6
 refine J.run 5 K8_5 [(19, .slice ra1 awL.length rc1), (5, .int .i64 (fndE awL 999)), (4, .pointer (some ⟨b2, 0, none⟩)), (3, .int .i64 0)] w6 (by kernel_rfl) ?_
 refine J.callF 20 11 #[.slice ra1 awL.length rc1, .int .i64 999] hb11 (by kernel_rfl) (ramp_any ra1 awL.length rc1 awL 999 _ ((rowOf_recs (S6.nth 2 rfl) _ rfl (fun _ => rfl) (by decide)))) ?_
 rintro _ w7 ⟨rfl, T3⟩
 have S7 : Sep w [box b2 [.int .i64 ((atD awL 999).gAt), .int .i64 ((atD awL 999).gPedal), .int .i64 ((atD awL 999).gBrake), .int .i64 ((atD awL 999).gGear), .int .i64 ((atD awL 999).gLoad)] 27, box b1 [.int .i64 0, .int .i64 0] 39, rowOf drE ra1 rc1 27 5 awL] w7 := S6.trans T3
 clear T3 S6
 refine J.run 3 K8_6 [(22, .int .i64 (fndE awL 999)), (21, .agg #[.int .i64 ((rampD awL 999).gAt), .int .i64 ((rampD awL 999).gPedal), .int .i64 ((rampD awL 999).gBrake), .int .i64 ((rampD awL 999).gGear), .int .i64 ((rampD awL 999).gLoad)]), (5, .int .i64 (fndE awL 999)), (4, .pointer (some ⟨b2, 0, none⟩)), (3, .int .i64 0)] w7 (by kernel_rfl) ?_
 refine J.new S7 6 [.int .i64 0, .int .i64 0, .int .i64 0, .int .i64 0, .int .i64 0] 27 (by kernel_rfl) ?_
 intro b3 w8 S8
 refine J.stBox S8 0 27 0 (.agg #[.int .i64 ((rampD awL 999).gAt), .int .i64 ((rampD awL 999).gPedal), .int .i64 ((rampD awL 999).gBrake), .int .i64 ((rampD awL 999).gGear), .int .i64 ((rampD awL 999).gLoad)]) [.int .i64 ((rampD awL 999).gAt), .int .i64 ((rampD awL 999).gPedal), .int .i64 ((rampD awL 999).gBrake), .int .i64 ((rampD awL 999).gGear), .int .i64 ((rampD awL 999).gLoad)] [box b3 [.int .i64 ((rampD awL 999).gAt), .int .i64 ((rampD awL 999).gPedal), .int .i64 ((rampD awL 999).gBrake), .int .i64 ((rampD awL 999).gGear), .int .i64 ((rampD awL 999).gLoad)] 27, box b2 [.int .i64 ((atD awL 999).gAt), .int .i64 ((atD awL 999).gPedal), .int .i64 ((atD awL 999).gBrake), .int .i64 ((atD awL 999).gGear), .int .i64 ((atD awL 999).gLoad)] 27, box b1 [.int .i64 0, .int .i64 0] 39, rowOf drE ra1 rc1 27 5 awL] (by kernel_rfl) rfl (by kernel_rfl) (by kernel_rfl) rfl ?_
 intro w9 S9
 refine J.run 11 K8_7 [(29, .bool ((fndE awL 999) == 0)), (7, .int .i64 (fndE awL 999)), (6, .pointer (some ⟨b3, 0, none⟩)), (4, .pointer (some ⟨b2, 0, none⟩))] w9 (by kernel_rfl) ?_
 have fk2 : (fndE awL 999) = 0 := (by decide +kernel)
 refine J.head (.bool true) (congrArg Value.bool (beq_iff_eq.2 fk2)) ?_
 refine J.run 4 K8_8 [(33, .bool ((fndE awL 999) == 0)), (6, .pointer (some ⟨b3, 0, none⟩)), (4, .pointer (some ⟨b2, 0, none⟩))] w9 (by kernel_rfl) ?_
 refine J.head (.bool true) (congrArg Value.bool (beq_iff_eq.2 fk2)) ?_
 refine J.ok (OK.ldBox S9 1 34 27 0 (.agg #[.int .i64 ((atD awL 999).gAt), .int .i64 ((atD awL 999).gPedal), .int .i64 ((atD awL 999).gBrake), .int .i64 ((atD awL 999).gGear), .int .i64 ((atD awL 999).gLoad)]) (by kernel_rfl) rfl (by kernel_rfl)) ?_
 refine J.run 1 K8_9 [(35, .agg #[.int .i64 999, .int .i64 0, .int .i64 0, .int .i64 0, .int .i64 0]), (34, .agg #[.int .i64 ((atD awL 999).gAt), .int .i64 ((atD awL 999).gPedal), .int .i64 ((atD awL 999).gBrake), .int .i64 ((atD awL 999).gGear), .int .i64 ((atD awL 999).gLoad)]), (33, .bool true), (6, .pointer (some ⟨b3, 0, none⟩))] w9 (by kernel_rfl) ?_
 refine J.ok (OK.eqS 36 true 27 #[.int .i64 ((atD awL 999).gAt), .int .i64 ((atD awL 999).gPedal), .int .i64 ((atD awL 999).gBrake), .int .i64 ((atD awL 999).gGear), .int .i64 ((atD awL 999).gLoad)] #[.int .i64 999, .int .i64 0, .int .i64 0, .int .i64 0, .int .i64 0] ((((atD awL 999).gAt) == 999) && ((((atD awL 999).gPedal) == 0) && ((((atD awL 999).gBrake) == 0) && ((((atD awL 999).gGear) == 0) && ((((atD awL 999).gLoad) == 0) && true))))) (by kernel_rfl) (by kernel_rfl) (by kernel_rfl) ((((atD awL 999).gAt) == 999) && ((((atD awL 999).gPedal) == 0) && ((((atD awL 999).gBrake) == 0) && ((((atD awL 999).gGear) == 0) && (((atD awL 999).gLoad) == 0))))) (by simp)) ?_
 refine J.run 2 K8_10 [(38, .bool ((((atD awL 999).gAt) == 999) && ((((atD awL 999).gPedal) == 0) && ((((atD awL 999).gBrake) == 0) && ((((atD awL 999).gGear) == 0) && (((atD awL 999).gLoad) == 0)))))), (6, .pointer (some ⟨b3, 0, none⟩))] w9 (by kernel_rfl) ?_
 have fk5 : ((((atD awL 999).gAt) == 999) && ((((atD awL 999).gPedal) == 0) && ((((atD awL 999).gBrake) == 0) && ((((atD awL 999).gGear) == 0) && (((atD awL 999).gLoad) == 0))))) = true := (by decide +kernel)
 refine J.head (.bool true) (congrArg Value.bool fk5) ?_
 refine J.ok (OK.ldBox S9 0 39 27 0 (.agg #[.int .i64 ((rampD awL 999).gAt), .int .i64 ((rampD awL 999).gPedal), .int .i64 ((rampD awL 999).gBrake), .int .i64 ((rampD awL 999).gGear), .int .i64 ((rampD awL 999).gLoad)]) (by kernel_rfl) rfl (by kernel_rfl)) ?_
 refine J.run 1 K8_11 [(40, .agg #[.int .i64 999, .int .i64 299, .int .i64 0, .int .i64 0, .int .i64 (-200)]), (39, .agg #[.int .i64 ((rampD awL 999).gAt), .int .i64 ((rampD awL 999).gPedal), .int .i64 ((rampD awL 999).gBrake), .int .i64 ((rampD awL 999).gGear), .int .i64 ((rampD awL 999).gLoad)]), (38, .bool true)] w9 (by kernel_rfl) ?_
 refine J.ok (OK.eqS 41 true 27 #[.int .i64 ((rampD awL 999).gAt), .int .i64 ((rampD awL 999).gPedal), .int .i64 ((rampD awL 999).gBrake), .int .i64 ((rampD awL 999).gGear), .int .i64 ((rampD awL 999).gLoad)] #[.int .i64 999, .int .i64 299, .int .i64 0, .int .i64 0, .int .i64 (-200)] ((((rampD awL 999).gAt) == 999) && ((((rampD awL 999).gPedal) == 299) && ((((rampD awL 999).gBrake) == 0) && ((((rampD awL 999).gGear) == 0) && ((((rampD awL 999).gLoad) == (-200)) && true))))) (by kernel_rfl) (by kernel_rfl) (by kernel_rfl) ((((rampD awL 999).gAt) == 999) && ((((rampD awL 999).gPedal) == 299) && ((((rampD awL 999).gBrake) == 0) && ((((rampD awL 999).gGear) == 0) && (((rampD awL 999).gLoad) == (-200)))))) (by simp)) ?_
 refine J.run 3 K8_12 [(0, .bool ((((rampD awL 999).gAt) == 999) && ((((rampD awL 999).gPedal) == 299) && ((((rampD awL 999).gBrake) == 0) && ((((rampD awL 999).gGear) == 0) && (((rampD awL 999).gLoad) == (-200)))))))] w9 (by kernel_rfl) ?_
 refine J.ret Tryd.f8 [.bool ((((rampD awL 999).gAt) == 999) && ((((rampD awL 999).gPedal) == 299) && ((((rampD awL 999).gBrake) == 0) && ((((rampD awL 999).gGear) == 0) && (((rampD awL 999).gLoad) == (-200))))))] Tryd.func8 ⟨by kernel_rfl, trivial⟩ ?_
 refine hR _ _ ?_
 have fk6 : ((((rampD awL 999).gAt) == 999) && ((((rampD awL 999).gPedal) == 299) && ((((rampD awL 999).gBrake) == 0) && ((((rampD awL 999).gGear) == 0) && (((rampD awL 999).gLoad) == (-200)))))) = true := (by decide +kernel)
 exact ⟨congrArg Value.bool fk6, S9.nil⟩

theorem hb4 : HasBody Tryd.prog 4 := fun _ _ => by kernel_rfl
noncomputable def K4_0 : List Item := adv 7 [] (bodyOf Tryd.f4)
noncomputable def K4_1 : List Item := adv 7 [] (popK K4_0)
noncomputable def K4_2 : List Item := adv 3 [true] K4_1
noncomputable def K4_3 : List Item := adv 2 [] (popK K4_2)
noncomputable def K4_4 : List Item := adv 6 [false] K4_1
noncomputable def K4_5 : List Item := adv 3 [] (popK K4_4)
noncomputable def K4_6 : List Item := adv 6 [] (popK (popK K4_5))
noncomputable def K4_7 : List Item := adv 3 [] (popK K4_6)
noncomputable def K4_8 : List Item := adv 6 [] (popK (popK K4_7))
noncomputable def K4_9 : List Item := adv 2 [] (popK K4_8)
noncomputable def K4_10 : List Item := adv 4 [false] K4_9
noncomputable def K4_11 : List Item := adv 8 [false] (rRest K4_10)
noncomputable def K4_12 : List Item := adv 7 [true] K4_11
noncomputable def K4_13 : List Item := adv 1 [] (popK K4_12)
noncomputable def K4_14 : List Item := adv 1 [] (popK K4_13)
noncomputable def K4_15 : List Item := adv 4 [] K4_14
noncomputable def K4_16 : List Item := adv 1 [] (popK K4_15)
noncomputable def K4_17 : List Item := adv 2 [] (popK K4_16)
noncomputable def K4_18 : List Item := adv 5 [] K4_17
noncomputable def K4_19 : List Item := adv 4 [] K4_11
noncomputable def K4_20 : List Item := adv 3 [true] K4_19
noncomputable def K4_21 : List Item := adv 1 [] (popK K4_20)
noncomputable def K4_22 : List Item := adv 1 [] (popK K4_21)
noncomputable def K4_23 : List Item := adv 4 [] K4_22
noncomputable def K4_24 : List Item := adv 1 [] (popK K4_23)
noncomputable def K4_25 : List Item := adv 2 [] (popK K4_24)
noncomputable def K4_26 : List Item := adv 5 [] K4_25
noncomputable def K4_27 : List Item := adv 3 [false] K4_19
noncomputable def K4_28 : List Item := adv 4 [true] K4_9
noncomputable def K4_29 : List Item := adv 3 [] (popK K4_28)
noncomputable def K4_30 : List Item := adv 3 [] (popK K4_29)
noncomputable def K4_31 : List Item := adv 1 [] (popK K4_30)
noncomputable def K4_32 : List Item := adv 2 [] (popK K4_31)
noncomputable def K4_33 : List Item := adv 4 [] K4_32
noncomputable def K4_34 : List Item := adv 1 [] (popK K4_33)
noncomputable def K4_35 : List Item := adv 2 [] (popK K4_34)
noncomputable def K4_36 : List Item := adv 5 [] K4_35
set_option maxRecDepth 20000 in
set_option maxHeartbeats 20000000 in
theorem lawtimes_any (a : Option Addr) (n c : Nat) (l : List Dr) (t : Int) (w : World) (hl : Recs drE 5 w a n l) (ht : -9223372036854775808 ≤ t ∧ t ≤ 9223372036854775807) (hW : TabW w) : Ret Tryd.prog 4 #[.slice a n c, .int .i64 t] w (fun v w' => v = .bool true ∧ Sep w [] w') := by
 have S0 := Sep.refl w
 refine Ret.named fun R hR => ?_
 refine Ret.of_J (N := 115) [(0, .slice a n c), (1, .int .i64 t)] Tryd.func4 rfl rfl (Nat.le_of_ble_eq_true (by kernel_rfl)) (by kernel_rfl) ?_
 have hll := hl.len_eq
 refine J.run 7 K4_0 [(0, .slice a n c), (1, .int .i64 t)] w (by kernel_rfl) ?_
 refine J.callF 9 8 #[] hb8 (by kernel_rfl) (awake_any  _ (tabW_sep hW S0)) ?_
 rintro _ w1 ⟨rfl, T1⟩
 have S1 : Sep w [] w1 := S0.trans T1
 clear T1
 refine J.run 7 K4_1 [(15, .bool (decide ((n : Int) > 250))), (0, .slice a n c), (1, .int .i64 t)] w1 (by kernel_rfl) ?_
 by_cases fk1 : (n : Int) > 250
 ·skip
  refine J.head (.bool true) (congrArg Value.bool (decide_eq_true fk1)) ?_
  refine J.run 3 K4_2 [] w1 (by kernel_rfl) ?_
  refine J.callF 16 8 #[] hb8 (by kernel_rfl) (awake_any  _ (tabW_sep hW S1)) ?_
  rintro _ w2 ⟨rfl, T2⟩
  have S2 : Sep w [] w2 := S1.trans T2
  clear T2 S1
  refine J.run 2 K4_3 [(4, .bool true)] w2 (by kernel_rfl) ?_
  refine J.ret Tryd.f4 [.bool true] Tryd.func4 ⟨by kernel_rfl, trivial⟩ ?_
  refine hR _ _ ?_
  exact ⟨rfl, S2.nil⟩
 ·skip
  refine J.head (.bool false) (congrArg Value.bool (decide_eq_false fk1)) ?_
  refine J.run 6 K4_4 [(19, .int .i64 t), (18, .slice a n c), (0, .slice a n c), (1, .int .i64 t)] w1 (by kernel_rfl) ?_
  refine J.callF 20 10 #[.slice a n c, .int .i64 t] hb10 (by kernel_rfl) (at_any a n c l t _ (hl.sep S1)) ?_
  rintro _ w3 ⟨rfl, T3⟩
  have S3 : Sep w [] w3 := S1.trans T3
  clear T3 S1
  refine J.run 3 K4_5 [(22, .int .i64 (fndE l t)), (21, .agg #[.int .i64 ((atD l t).gAt), .int .i64 ((atD l t).gPedal), .int .i64 ((atD l t).gBrake), .int .i64 ((atD l t).gGear), .int .i64 ((atD l t).gLoad)]), (0, .slice a n c), (1, .int .i64 t)] w3 (by kernel_rfl) ?_
  refine J.new S3 5 [.int .i64 0, .int .i64 0, .int .i64 0, .int .i64 0, .int .i64 0] 27 (by kernel_rfl) ?_
  intro b1 w4 S4
  refine J.stBox S4 0 27 0 (.agg #[.int .i64 ((atD l t).gAt), .int .i64 ((atD l t).gPedal), .int .i64 ((atD l t).gBrake), .int .i64 ((atD l t).gGear), .int .i64 ((atD l t).gLoad)]) [.int .i64 ((atD l t).gAt), .int .i64 ((atD l t).gPedal), .int .i64 ((atD l t).gBrake), .int .i64 ((atD l t).gGear), .int .i64 ((atD l t).gLoad)] [box b1 [.int .i64 ((atD l t).gAt), .int .i64 ((atD l t).gPedal), .int .i64 ((atD l t).gBrake), .int .i64 ((atD l t).gGear), .int .i64 ((atD l t).gLoad)] 27] (by kernel_rfl) rfl (by kernel_rfl) (by kernel_rfl) rfl ?_
  intro w5 S5
  refine J.run 6 K4_6 [(25, .int .i64 t), (24, .slice a n c), (6, .int .i64 (fndE l t)), (5, .pointer (some ⟨b1, 0, none⟩)), (0, .slice a n c), (1, .int .i64 t)] w5 (by kernel_rfl) ?_
  refine J.callF 26 11 #[.slice a n c, .int .i64 t] hb11 (by kernel_rfl) (ramp_any a n c l t _ (hl.sep S5)) ?_
  rintro _ w6 ⟨rfl, T4⟩
  have S6 : Sep w [box b1 [.int .i64 ((atD l t).gAt), .int .i64 ((atD l t).gPedal), .int .i64 ((atD l t).gBrake), .int .i64 ((atD l t).gGear), .int .i64 ((atD l t).gLoad)] 27] w6 := S5.trans T4
  clear T4 S5
  refine J.run 3 K4_7 [(28, .int .i64 (fndE l t)), (27, .agg #[.int .i64 ((rampD l t).gAt), .int .i64 ((rampD l t).gPedal), .int .i64 ((rampD l t).gBrake), .int .i64 ((rampD l t).gGear), .int .i64 ((rampD l t).gLoad)]), (6, .int .i64 (fndE l t)), (5, .pointer (some ⟨b1, 0, none⟩)), (0, .slice a n c), (1, .int .i64 t)] w6 (by kernel_rfl) ?_
  refine J.new S6 7 [.int .i64 0, .int .i64 0, .int .i64 0, .int .i64 0, .int .i64 0] 27 (by kernel_rfl) ?_
  intro b2 w7 S7
  refine J.stBox S7 0 27 0 (.agg #[.int .i64 ((rampD l t).gAt), .int .i64 ((rampD l t).gPedal), .int .i64 ((rampD l t).gBrake), .int .i64 ((rampD l t).gGear), .int .i64 ((rampD l t).gLoad)]) [.int .i64 ((rampD l t).gAt), .int .i64 ((rampD l t).gPedal), .int .i64 ((rampD l t).gBrake), .int .i64 ((rampD l t).gGear), .int .i64 ((rampD l t).gLoad)] [box b2 [.int .i64 ((rampD l t).gAt), .int .i64 ((rampD l t).gPedal), .int .i64 ((rampD l t).gBrake), .int .i64 ((rampD l t).gGear), .int .i64 ((rampD l t).gLoad)] 27, box b1 [.int .i64 ((atD l t).gAt), .int .i64 ((atD l t).gPedal), .int .i64 ((atD l t).gBrake), .int .i64 ((atD l t).gGear), .int .i64 ((atD l t).gLoad)] 27] (by kernel_rfl) rfl (by kernel_rfl) (by kernel_rfl) rfl ?_
  intro w8 S8
  refine J.run 6 K4_8 [(29, .slice a n c), (8, .int .i64 (fndE l t)), (7, .pointer (some ⟨b2, 0, none⟩)), (6, .int .i64 (fndE l t)), (5, .pointer (some ⟨b1, 0, none⟩)), (0, .slice a n c), (1, .int .i64 t)] w8 (by kernel_rfl) ?_
  refine J.callF 30 13 #[.slice a n c] hb13 (by kernel_rfl) (rvalid_any a n c l _ (hl.sep S8)) ?_
  rintro _ w9 ⟨rfl, T5⟩
  have S9 : Sep w [box b2 [.int .i64 ((rampD l t).gAt), .int .i64 ((rampD l t).gPedal), .int .i64 ((rampD l t).gBrake), .int .i64 ((rampD l t).gGear), .int .i64 ((rampD l t).gLoad)] 27, box b1 [.int .i64 ((atD l t).gAt), .int .i64 ((atD l t).gPedal), .int .i64 ((atD l t).gBrake), .int .i64 ((atD l t).gGear), .int .i64 ((atD l t).gLoad)] 27] w9 := S8.trans T5
  clear T5 S8
  refine J.run 2 K4_9 [(31, .bool (!(validD l))), (8, .int .i64 (fndE l t)), (7, .pointer (some ⟨b2, 0, none⟩)), (6, .int .i64 (fndE l t)), (5, .pointer (some ⟨b1, 0, none⟩)), (0, .slice a n c), (1, .int .i64 t)] w9 (by kernel_rfl) ?_
  rcases Bool.eq_false_or_eq_true (validD l) with fk2 | fk2
  ·skip
   refine J.head (.bool false) (congrArg Value.bool (by rw [fk2]; rfl)) ?_
   have hv := fk2
   have hvl := (valid_iff.1 hv).1
   refine J.run 4 K4_10 [(8, .int .i64 (fndE l t)), (7, .pointer (some ⟨b2, 0, none⟩)), (6, .int .i64 (fndE l t)), (5, .pointer (some ⟨b1, 0, none⟩)), (0, .slice a n c), (1, .int .i64 t)] w9 (by kernel_rfl) ?_
   obtain ⟨p1, hp1, hc1⟩ := hl.at dr0 ((n : Int) - 1).toNat (by omega)
   refine J.drawPlan (fun w_ => Sep w [box b2 [.int .i64 ((rampD l t).gAt), .int .i64 ((rampD l t).gPedal), .int .i64 ((rampD l t).gBrake), .int .i64 ((rampD l t).gGear), .int .i64 ((rampD l t).gLoad)] 27, box b1 [.int .i64 ((atD l t).gAt), .int .i64 ((atD l t).gPedal), .int .i64 ((atD l t).gBrake), .int .i64 ((atD l t).gGear), .int .i64 ((atD l t).gLoad)] 27] w_) [(0, true), (1, false), (2, true), (3, true), (4, true), (6, true), (7, true), (8, true), (9, true), (10, true), (11, true), (12, true), (5, false), (13, true), (14, true)] S9 Tryd.mixed (by kernel_rfl) (planOK_of (T := [(0, some 58, 1), (1, some 59, 288230376151711744), (2, some 60, 576460752303423488), (6, some 61, 1152921504606846976), (8, some 62, 2305843009213693953), (24, some 63, 6917529027641081856), (8, some 64, 2305843009213693953), (8, some 65, 2305843009213693953), (136, some 66, 39199331156632797184), (264, some 67, 76092819304051900416), (584, some 68, 168326539672599658496), (1032, some 69, 297453748188566519808), (2056, some 70, 592601653367919345664), (4136, some 71, 1192120835763479773184), (8200, some 72, 2363489084444036300800)]) (by kernel_rfl) (by kernel_rfl)) ?_
   intro w10 S10
   refine PB.mk (S10.sub (.cons_cons _ (.cons_cons _ (.slnil)))) ?_
   refine PL.take 0 58 (.slice a n c) (fun _ _ => by kernel_rfl) ?_
   refine PL.callF 59 9 #[.slice a n c] hb9 (by kernel_rfl) (valid_any a n c l _ (hl.sep S10)) ?_
   rintro _ w11 ⟨rfl, T6⟩
   have S11 : Sep w [box b2 [.int .i64 ((rampD l t).gAt), .int .i64 ((rampD l t).gPedal), .int .i64 ((rampD l t).gBrake), .int .i64 ((rampD l t).gGear), .int .i64 ((rampD l t).gLoad)] 27, box b1 [.int .i64 ((atD l t).gAt), .int .i64 ((atD l t).gPedal), .int .i64 ((atD l t).gBrake), .int .i64 ((atD l t).gGear), .int .i64 ((atD l t).gLoad)] 27] w11 := S10.trans T6
   clear T6 S10
   refine PB.head (.bool true) (congrArg Value.bool fk2) ?_
   refine PB.mk (S11.sub (.cons_cons _ (.cons_cons _ (.slnil)))) ?_
   refine PL.take 2 60 (.bool false) (fun _ _ => by kernel_rfl) ?_
   refine PL.take 3 61 (.bool false) (fun _ _ => by kernel_rfl) ?_
   refine PL.take 4 62 (.slice a n c) (fun _ _ => by kernel_rfl) ?_
   refine PL.take 6 64 (.slice a n c) (fun _ _ => by kernel_rfl) ?_
   refine PL.take 7 65 (.slice a n c) (fun _ _ => by kernel_rfl) ?_
   refine PL.take 8 66 (.int .i64 (n : Int)) (fun _ _ => by kernel_rfl) ?_
   refine PL.take 9 67 (.int .i64 (IntKind.wrap .i64 ((n : Int) - 1))) (fun _ _ => by kernel_rfl) ?_
   refine PL.head (.int .i64 ((n : Int) - 1)) (congrArg (Value.int .i64) (IntWalk.i64_in _ (by omega))) ?_
   refine PL.takeOK 10 (fun w_ S_ => OK.index 68 22 5 a p1 n ((n : Int) - 1).toNat ((n : Int) - 1) (p1.add (((n : Int) - 1).toNat * 5)) (by kernel_rfl) (by kernel_rfl) hp1 (by omega) (by omega) rfl) rfl ?_
   refine PL.take 11 69 (.pointer (some ((p1.add (((n : Int) - 1).toNat * 5)).add 0))) (fun _ _ => by kernel_rfl) ?_
   refine PL.takeOK 12 (fun w_ S_ => OK.ldCell 70 3 ((p1.add (((n : Int) - 1).toNat * 5)).add 0) (.int .i64 ((l.getD ((n : Int) - 1).toNat dr0).gAt)) (by kernel_rfl) (by kernel_rfl) (S_.cell (hc1 0 _ rfl))) rfl ?_
   refine PL.callF 63 14 #[.slice a n c] hb14 (by kernel_rfl) (length_any a n c l _ (hl.sep S11)) ?_
   rintro _ w12 ⟨rfl, T7⟩
   have S12 : Sep w [box b2 [.int .i64 ((rampD l t).gAt), .int .i64 ((rampD l t).gPedal), .int .i64 ((rampD l t).gBrake), .int .i64 ((rampD l t).gGear), .int .i64 ((rampD l t).gLoad)] 27, box b1 [.int .i64 ((atD l t).gAt), .int .i64 ((atD l t).gPedal), .int .i64 ((atD l t).gBrake), .int .i64 ((atD l t).gGear), .int .i64 ((atD l t).gLoad)] 27] w12 := S11.trans T7
   clear T7 S11
   refine PB.mk (S12.sub (.cons_cons _ (.cons_cons _ (.slnil)))) ?_
   refine PL.take 13 71 (.bool ((if validD l then (l.getD ((l.length : Int) - 1).toNat dr0).gAt else 0) != ((l.getD ((n : Int) - 1).toNat dr0).gAt))) (fun _ _ => by kernel_rfl) ?_
   refine PL.take 14 72 (.bool ((if validD l then (l.getD ((l.length : Int) - 1).toNat dr0).gAt else 0) != ((l.getD ((n : Int) - 1).toNat dr0).gAt))) (fun _ _ => by kernel_rfl) ?_
   refine PL.done ?_
   refine J.run 0 (rRest K4_10) [(72, .bool ((if validD l then (l.getD ((l.length : Int) - 1).toNat dr0).gAt else 0) != ((l.getD ((n : Int) - 1).toNat dr0).gAt))), (8, .int .i64 (fndE l t)), (7, .pointer (some ⟨b2, 0, none⟩)), (6, .int .i64 (fndE l t)), (5, .pointer (some ⟨b1, 0, none⟩)), (0, .slice a n c), (1, .int .i64 t)] w12 (by kernel_rfl) ?_
   have fk4 : (if validD l then (l.getD ((l.length : Int) - 1).toNat dr0).gAt else 0) = ((l.getD ((n : Int) - 1).toNat dr0).gAt) := (by rw [if_pos hv, hll])
   refine J.head (.bool false) (congrArg Value.bool (bne_eq_false_iff_eq.2 fk4)) ?_
   refine J.run 8 K4_11 [(75, .bool (decide (t < 0))), (8, .int .i64 (fndE l t)), (7, .pointer (some ⟨b2, 0, none⟩)), (6, .int .i64 (fndE l t)), (5, .pointer (some ⟨b1, 0, none⟩)), (0, .slice a n c), (1, .int .i64 t)] w12 (by kernel_rfl) ?_
   by_cases fk5 : t < 0
   ·skip
    refine J.head (.bool true) (congrArg Value.bool (decide_eq_true fk5)) ?_
    have hz1 := fnd_out (t := t) hv (by omega)
    have hz2 : atD l t = ⟨0, 0, 0, 0, 0⟩ := at_no (by rw [hz1.1]; decide)
    have hz3 : rampD l t = ⟨0, 0, 0, 0, 0⟩ := ramp_no (by rw [hz1.1]; decide)
    refine J.run 7 K4_12 [(8, .int .i64 (fndE l t)), (7, .pointer (some ⟨b2, 0, none⟩)), (6, .int .i64 (fndE l t)), (5, .pointer (some ⟨b1, 0, none⟩))] w12 (by kernel_rfl) ?_
    refine J.ok (OK.ldBox S12 1 79 27 0 (.agg #[.int .i64 ((atD l t).gAt), .int .i64 ((atD l t).gPedal), .int .i64 ((atD l t).gBrake), .int .i64 ((atD l t).gGear), .int .i64 ((atD l t).gLoad)]) (by kernel_rfl) rfl (by kernel_rfl)) ?_
    refine J.run 1 K4_13 [(80, .agg kvD20_1), (79, .agg #[.int .i64 ((atD l t).gAt), .int .i64 ((atD l t).gPedal), .int .i64 ((atD l t).gBrake), .int .i64 ((atD l t).gGear), .int .i64 ((atD l t).gLoad)]), (8, .int .i64 (fndE l t)), (7, .pointer (some ⟨b2, 0, none⟩)), (6, .int .i64 (fndE l t))] w12 (by kernel_rfl) ?_
    refine J.ok (OK.eqS 81 true 27 #[.int .i64 ((atD l t).gAt), .int .i64 ((atD l t).gPedal), .int .i64 ((atD l t).gBrake), .int .i64 ((atD l t).gGear), .int .i64 ((atD l t).gLoad)] kvD20_1 ((((atD l t).gAt) == 0) && ((((atD l t).gPedal) == 0) && ((((atD l t).gBrake) == 0) && ((((atD l t).gGear) == 0) && ((((atD l t).gLoad) == 0) && true))))) (by kernel_rfl) (by kernel_rfl) (by kernel_rfl) ((((atD l t).gAt) == 0) && ((((atD l t).gPedal) == 0) && ((((atD l t).gBrake) == 0) && ((((atD l t).gGear) == 0) && (((atD l t).gLoad) == 0))))) (by simp)) ?_
    refine J.run 1 K4_14 [(82, .bool ((((atD l t).gAt) == 0) && ((((atD l t).gPedal) == 0) && ((((atD l t).gBrake) == 0) && ((((atD l t).gGear) == 0) && (((atD l t).gLoad) == 0)))))), (8, .int .i64 (fndE l t)), (7, .pointer (some ⟨b2, 0, none⟩)), (6, .int .i64 (fndE l t))] w12 (by kernel_rfl) ?_
    have fk7 : ((((atD l t).gAt) == 0) && ((((atD l t).gPedal) == 0) && ((((atD l t).gBrake) == 0) && ((((atD l t).gGear) == 0) && (((atD l t).gLoad) == 0))))) = true := (by rw [hz2]; rfl)
    refine J.head (.bool true) (congrArg Value.bool fk7) ?_
    refine J.run 4 K4_15 [(86, .bool ((fndE l t) == 2)), (8, .int .i64 (fndE l t)), (7, .pointer (some ⟨b2, 0, none⟩))] w12 (by kernel_rfl) ?_
    have fk9 : (fndE l t) = 2 := hz1.1
    refine J.head (.bool true) (congrArg Value.bool (beq_iff_eq.2 fk9)) ?_
    refine J.ok (OK.ldBox S12 0 87 27 0 (.agg #[.int .i64 ((rampD l t).gAt), .int .i64 ((rampD l t).gPedal), .int .i64 ((rampD l t).gBrake), .int .i64 ((rampD l t).gGear), .int .i64 ((rampD l t).gLoad)]) (by kernel_rfl) rfl (by kernel_rfl)) ?_
    refine J.run 1 K4_16 [(88, .agg kvD20_1), (87, .agg #[.int .i64 ((rampD l t).gAt), .int .i64 ((rampD l t).gPedal), .int .i64 ((rampD l t).gBrake), .int .i64 ((rampD l t).gGear), .int .i64 ((rampD l t).gLoad)]), (86, .bool true), (8, .int .i64 (fndE l t))] w12 (by kernel_rfl) ?_
    refine J.ok (OK.eqS 89 true 27 #[.int .i64 ((rampD l t).gAt), .int .i64 ((rampD l t).gPedal), .int .i64 ((rampD l t).gBrake), .int .i64 ((rampD l t).gGear), .int .i64 ((rampD l t).gLoad)] kvD20_1 ((((rampD l t).gAt) == 0) && ((((rampD l t).gPedal) == 0) && ((((rampD l t).gBrake) == 0) && ((((rampD l t).gGear) == 0) && ((((rampD l t).gLoad) == 0) && true))))) (by kernel_rfl) (by kernel_rfl) (by kernel_rfl) ((((rampD l t).gAt) == 0) && ((((rampD l t).gPedal) == 0) && ((((rampD l t).gBrake) == 0) && ((((rampD l t).gGear) == 0) && (((rampD l t).gLoad) == 0))))) (by simp)) ?_
    refine J.run 2 K4_17 [(91, .bool ((((rampD l t).gAt) == 0) && ((((rampD l t).gPedal) == 0) && ((((rampD l t).gBrake) == 0) && ((((rampD l t).gGear) == 0) && (((rampD l t).gLoad) == 0)))))), (8, .int .i64 (fndE l t))] w12 (by kernel_rfl) ?_
    have fk11 : ((((rampD l t).gAt) == 0) && ((((rampD l t).gPedal) == 0) && ((((rampD l t).gBrake) == 0) && ((((rampD l t).gGear) == 0) && (((rampD l t).gLoad) == 0))))) = true := (by rw [hz3]; rfl)
    refine J.head (.bool true) (congrArg Value.bool fk11) ?_
    refine J.run 5 K4_18 [(4, .bool ((fndE l t) == 2))] w12 (by kernel_rfl) ?_
    refine J.ret Tryd.f4 [.bool ((fndE l t) == 2)] Tryd.func4 ⟨by kernel_rfl, trivial⟩ ?_
    refine hR _ _ ?_
    have fk12 : (fndE l t) = 2 := hz1.1
    exact ⟨congrArg Value.bool (beq_iff_eq.2 fk12), S12.nil⟩
   ·skip
    refine J.head (.bool false) (congrArg Value.bool (decide_eq_false fk5)) ?_
    refine J.run 4 K4_19 [(78, .bool (decide (t > 1099511627776))), (8, .int .i64 (fndE l t)), (7, .pointer (some ⟨b2, 0, none⟩)), (6, .int .i64 (fndE l t)), (5, .pointer (some ⟨b1, 0, none⟩)), (0, .slice a n c), (1, .int .i64 t)] w12 (by kernel_rfl) ?_
    by_cases fk13 : t > 1099511627776
    ·skip
     refine J.head (.bool true) (congrArg Value.bool (decide_eq_true fk13)) ?_
     have hz1 := fnd_out (t := t) hv (by omega)
     have hz2 : atD l t = ⟨0, 0, 0, 0, 0⟩ := at_no (by rw [hz1.1]; decide)
     have hz3 : rampD l t = ⟨0, 0, 0, 0, 0⟩ := ramp_no (by rw [hz1.1]; decide)
     refine J.run 3 K4_20 [(8, .int .i64 (fndE l t)), (7, .pointer (some ⟨b2, 0, none⟩)), (6, .int .i64 (fndE l t)), (5, .pointer (some ⟨b1, 0, none⟩))] w12 (by kernel_rfl) ?_
     refine J.ok (OK.ldBox S12 1 79 27 0 (.agg #[.int .i64 ((atD l t).gAt), .int .i64 ((atD l t).gPedal), .int .i64 ((atD l t).gBrake), .int .i64 ((atD l t).gGear), .int .i64 ((atD l t).gLoad)]) (by kernel_rfl) rfl (by kernel_rfl)) ?_
     refine J.run 1 K4_21 [(80, .agg kvD20_1), (79, .agg #[.int .i64 ((atD l t).gAt), .int .i64 ((atD l t).gPedal), .int .i64 ((atD l t).gBrake), .int .i64 ((atD l t).gGear), .int .i64 ((atD l t).gLoad)]), (8, .int .i64 (fndE l t)), (7, .pointer (some ⟨b2, 0, none⟩)), (6, .int .i64 (fndE l t))] w12 (by kernel_rfl) ?_
     refine J.ok (OK.eqS 81 true 27 #[.int .i64 ((atD l t).gAt), .int .i64 ((atD l t).gPedal), .int .i64 ((atD l t).gBrake), .int .i64 ((atD l t).gGear), .int .i64 ((atD l t).gLoad)] kvD20_1 ((((atD l t).gAt) == 0) && ((((atD l t).gPedal) == 0) && ((((atD l t).gBrake) == 0) && ((((atD l t).gGear) == 0) && ((((atD l t).gLoad) == 0) && true))))) (by kernel_rfl) (by kernel_rfl) (by kernel_rfl) ((((atD l t).gAt) == 0) && ((((atD l t).gPedal) == 0) && ((((atD l t).gBrake) == 0) && ((((atD l t).gGear) == 0) && (((atD l t).gLoad) == 0))))) (by simp)) ?_
     refine J.run 1 K4_22 [(82, .bool ((((atD l t).gAt) == 0) && ((((atD l t).gPedal) == 0) && ((((atD l t).gBrake) == 0) && ((((atD l t).gGear) == 0) && (((atD l t).gLoad) == 0)))))), (8, .int .i64 (fndE l t)), (7, .pointer (some ⟨b2, 0, none⟩)), (6, .int .i64 (fndE l t))] w12 (by kernel_rfl) ?_
     have fk15 : ((((atD l t).gAt) == 0) && ((((atD l t).gPedal) == 0) && ((((atD l t).gBrake) == 0) && ((((atD l t).gGear) == 0) && (((atD l t).gLoad) == 0))))) = true := (by rw [hz2]; rfl)
     refine J.head (.bool true) (congrArg Value.bool fk15) ?_
     refine J.run 4 K4_23 [(86, .bool ((fndE l t) == 2)), (8, .int .i64 (fndE l t)), (7, .pointer (some ⟨b2, 0, none⟩))] w12 (by kernel_rfl) ?_
     have fk17 : (fndE l t) = 2 := hz1.1
     refine J.head (.bool true) (congrArg Value.bool (beq_iff_eq.2 fk17)) ?_
     refine J.ok (OK.ldBox S12 0 87 27 0 (.agg #[.int .i64 ((rampD l t).gAt), .int .i64 ((rampD l t).gPedal), .int .i64 ((rampD l t).gBrake), .int .i64 ((rampD l t).gGear), .int .i64 ((rampD l t).gLoad)]) (by kernel_rfl) rfl (by kernel_rfl)) ?_
     refine J.run 1 K4_24 [(88, .agg kvD20_1), (87, .agg #[.int .i64 ((rampD l t).gAt), .int .i64 ((rampD l t).gPedal), .int .i64 ((rampD l t).gBrake), .int .i64 ((rampD l t).gGear), .int .i64 ((rampD l t).gLoad)]), (86, .bool true), (8, .int .i64 (fndE l t))] w12 (by kernel_rfl) ?_
     refine J.ok (OK.eqS 89 true 27 #[.int .i64 ((rampD l t).gAt), .int .i64 ((rampD l t).gPedal), .int .i64 ((rampD l t).gBrake), .int .i64 ((rampD l t).gGear), .int .i64 ((rampD l t).gLoad)] kvD20_1 ((((rampD l t).gAt) == 0) && ((((rampD l t).gPedal) == 0) && ((((rampD l t).gBrake) == 0) && ((((rampD l t).gGear) == 0) && ((((rampD l t).gLoad) == 0) && true))))) (by kernel_rfl) (by kernel_rfl) (by kernel_rfl) ((((rampD l t).gAt) == 0) && ((((rampD l t).gPedal) == 0) && ((((rampD l t).gBrake) == 0) && ((((rampD l t).gGear) == 0) && (((rampD l t).gLoad) == 0))))) (by simp)) ?_
     refine J.run 2 K4_25 [(91, .bool ((((rampD l t).gAt) == 0) && ((((rampD l t).gPedal) == 0) && ((((rampD l t).gBrake) == 0) && ((((rampD l t).gGear) == 0) && (((rampD l t).gLoad) == 0)))))), (8, .int .i64 (fndE l t))] w12 (by kernel_rfl) ?_
     have fk19 : ((((rampD l t).gAt) == 0) && ((((rampD l t).gPedal) == 0) && ((((rampD l t).gBrake) == 0) && ((((rampD l t).gGear) == 0) && (((rampD l t).gLoad) == 0))))) = true := (by rw [hz3]; rfl)
     refine J.head (.bool true) (congrArg Value.bool fk19) ?_
     refine J.run 5 K4_26 [(4, .bool ((fndE l t) == 2))] w12 (by kernel_rfl) ?_
     refine J.ret Tryd.f4 [.bool ((fndE l t) == 2)] Tryd.func4 ⟨by kernel_rfl, trivial⟩ ?_
     refine hR _ _ ?_
     have fk20 : (fndE l t) = 2 := hz1.1
     exact ⟨congrArg Value.bool (beq_iff_eq.2 fk20), S12.nil⟩
    ·skip
     refine J.head (.bool false) (congrArg Value.bool (decide_eq_false fk13)) ?_
     have hz0 := fnd_in (t := t) hv (by omega)
     refine J.run 3 K4_27 [(8, .int .i64 (fndE l t)), (7, .pointer (some ⟨b2, 0, none⟩)), (6, .int .i64 (fndE l t)), (5, .pointer (some ⟨b1, 0, none⟩)), (0, .slice a n c), (1, .int .i64 t)] w12 (by kernel_rfl) ?_
     have fk21 : (fndE l t) = 0 := hz0.1
     refine J.drawPlan (fun w_ => Sep w [box b2 [.int .i64 ((rampD l t).gAt), .int .i64 ((rampD l t).gPedal), .int .i64 ((rampD l t).gBrake), .int .i64 ((rampD l t).gGear), .int .i64 ((rampD l t).gLoad)] 27, box b1 [.int .i64 ((atD l t).gAt), .int .i64 ((atD l t).gPedal), .int .i64 ((atD l t).gBrake), .int .i64 ((atD l t).gGear), .int .i64 ((atD l t).gLoad)] 27] w_) [(0, true), (1, true), (2, true), (3, false), (4, true), (5, true), (6, true), (7, true), (8, true), (9, true), (10, true), (11, true), (12, true), (13, false), (14, true), (15, true), (16, true), (17, true), (18, true), (19, true), (20, true)] S12 Tryd.mixed (by kernel_rfl) (planOK_of (T := [(0, some 95, 32), (0, some 96, 1), (0, some 97, 2), (6, some 98, 237684487542793012780631851008), (9, some 99, 356526731314189519170947776512), (24, some 100, 633825300114114700748351602688), (32, some 101, 1267650600228229401496703205440), (96, some 102, 3802951800684688204490109616128), (160, some 103, 6338253001141147007483516026880), (288, some 104, 10141204801825835211973625643008), (512, some 105, 20282409603651670423947251286144), (512, some 106, 20282409603651670423947251286017), (512, some 107, 20282409603651670423947251286018), (6656, some 108, 263671324847471715511314266718208), (9728, some 109, 385365782469381738054997774434304), (16896, some 110, 669319516920505123990259292438528), (40960, some 111, 1298074214633706907132624082305024), (65536, some 112, 2596148429267413814265248164610304), (196608, some 113, 7788445287802241442795744493830144), (327680, some 114, 12980742146337069071326240823050240), (1048575, some 4, 20769187434139310514121985316880384)]) (by kernel_rfl) (by kernel_rfl)) ?_
     intro w13 S13
     refine PB.mk (S13.sub (.cons_cons _ (.cons_cons _ (.slnil)))) ?_
     refine PL.takeOK 0 (fun w_ S_ => OK.ldBox S_ 1 95 27 0 (.agg #[.int .i64 ((atD l t).gAt), .int .i64 ((atD l t).gPedal), .int .i64 ((atD l t).gBrake), .int .i64 ((atD l t).gGear), .int .i64 ((atD l t).gLoad)]) (by kernel_rfl) rfl (by kernel_rfl)) rfl ?_
     refine PL.take 1 96 (.slice a n c) (fun _ _ => by kernel_rfl) ?_
     refine PL.take 2 97 (.int .i64 t) (fun _ _ => by kernel_rfl) ?_
     refine PL.callF 98 15 #[.slice a n c, .int .i64 t] hb15 (by kernel_rfl) (rat_any a n c l t _ (hl.sep S13) hv (by omega)) ?_
     rintro _ w14 ⟨rfl, T8⟩
     have S14 : Sep w [box b2 [.int .i64 ((rampD l t).gAt), .int .i64 ((rampD l t).gPedal), .int .i64 ((rampD l t).gBrake), .int .i64 ((rampD l t).gGear), .int .i64 ((rampD l t).gLoad)] 27, box b1 [.int .i64 ((atD l t).gAt), .int .i64 ((atD l t).gPedal), .int .i64 ((atD l t).gBrake), .int .i64 ((atD l t).gGear), .int .i64 ((atD l t).gLoad)] 27] w14 := S13.trans T8
     clear T8 S13
     refine PB.mk (S14.sub (.cons_cons _ (.cons_cons _ (.slnil)))) ?_
     refine PL.takeOK 4 (fun w_ S_ => OK.eqS 99 true 27 #[.int .i64 ((atD l t).gAt), .int .i64 ((atD l t).gPedal), .int .i64 ((atD l t).gBrake), .int .i64 ((atD l t).gGear), .int .i64 ((atD l t).gLoad)] #[.int .i64 ((atD l t).gAt), .int .i64 ((atD l t).gPedal), .int .i64 ((atD l t).gBrake), .int .i64 ((atD l t).gGear), .int .i64 ((atD l t).gLoad)] ((((atD l t).gAt) == ((atD l t).gAt)) && ((((atD l t).gPedal) == ((atD l t).gPedal)) && ((((atD l t).gBrake) == ((atD l t).gBrake)) && ((((atD l t).gGear) == ((atD l t).gGear)) && ((((atD l t).gLoad) == ((atD l t).gLoad)) && true))))) (by kernel_rfl) (by kernel_rfl) (by kernel_rfl) true (by simp)) rfl ?_
     refine PL.take 5 100 (.bool true) (fun _ _ => by kernel_rfl) ?_
     refine PL.take 6 101 (.int .i64 (fndE l t)) (fun _ _ => by kernel_rfl) ?_
     refine PL.take 7 102 (.bool ((fndE l t) == 0)) (fun _ _ => by kernel_rfl) ?_
     refine PL.head (.bool true) (congrArg Value.bool (beq_iff_eq.2 fk21)) ?_
     refine PL.take 8 103 (.bool true) (fun _ _ => by kernel_rfl) ?_
     refine PL.take 9 104 (.bool true) (fun _ _ => by kernel_rfl) ?_
     refine PL.takeOK 10 (fun w_ S_ => OK.ldBox S_ 0 105 27 0 (.agg #[.int .i64 ((rampD l t).gAt), .int .i64 ((rampD l t).gPedal), .int .i64 ((rampD l t).gBrake), .int .i64 ((rampD l t).gGear), .int .i64 ((rampD l t).gLoad)]) (by kernel_rfl) rfl (by kernel_rfl)) rfl ?_
     refine PL.take 11 106 (.slice a n c) (fun _ _ => by kernel_rfl) ?_
     refine PL.take 12 107 (.int .i64 t) (fun _ _ => by kernel_rfl) ?_
     refine PL.callF 108 16 #[.slice a n c, .int .i64 t] hb16 (by kernel_rfl) (rramp_any a n c l t _ (hl.sep S14) hv (by omega)) ?_
     rintro _ w15 ⟨rfl, T9⟩
     have S15 : Sep w [box b2 [.int .i64 ((rampD l t).gAt), .int .i64 ((rampD l t).gPedal), .int .i64 ((rampD l t).gBrake), .int .i64 ((rampD l t).gGear), .int .i64 ((rampD l t).gLoad)] 27, box b1 [.int .i64 ((atD l t).gAt), .int .i64 ((atD l t).gPedal), .int .i64 ((atD l t).gBrake), .int .i64 ((atD l t).gGear), .int .i64 ((atD l t).gLoad)] 27] w15 := S14.trans T9
     clear T9 S14
     refine PB.mk (S15.sub (.cons_cons _ (.cons_cons _ (.slnil)))) ?_
     refine PL.takeOK 14 (fun w_ S_ => OK.eqS 109 true 27 #[.int .i64 ((rampD l t).gAt), .int .i64 ((rampD l t).gPedal), .int .i64 ((rampD l t).gBrake), .int .i64 ((rampD l t).gGear), .int .i64 ((rampD l t).gLoad)] #[.int .i64 ((rampD l t).gAt), .int .i64 ((rampD l t).gPedal), .int .i64 ((rampD l t).gBrake), .int .i64 ((rampD l t).gGear), .int .i64 ((rampD l t).gLoad)] ((((rampD l t).gAt) == ((rampD l t).gAt)) && ((((rampD l t).gPedal) == ((rampD l t).gPedal)) && ((((rampD l t).gBrake) == ((rampD l t).gBrake)) && ((((rampD l t).gGear) == ((rampD l t).gGear)) && ((((rampD l t).gLoad) == ((rampD l t).gLoad)) && true))))) (by kernel_rfl) (by kernel_rfl) (by kernel_rfl) true (by simp)) rfl ?_
     refine PL.take 15 110 (.bool true) (fun _ _ => by kernel_rfl) ?_
     refine PL.take 16 111 (.bool true) (fun _ _ => by kernel_rfl) ?_
     refine PL.take 17 112 (.int .i64 (fndE l t)) (fun _ _ => by kernel_rfl) ?_
     refine PL.take 18 113 (.bool ((fndE l t) == 0)) (fun _ _ => by kernel_rfl) ?_
     refine PL.head (.bool true) (congrArg Value.bool (beq_iff_eq.2 fk21)) ?_
     refine PL.take 19 114 (.bool true) (fun _ _ => by kernel_rfl) ?_
     refine PL.take 20 4 (.bool true) (fun _ _ => by kernel_rfl) ?_
     refine PL.done ?_
     refine J.run 0 (rRest K4_27) [(4, .bool true)] w15 (by kernel_rfl) ?_
     refine J.ret Tryd.f4 [.bool true] Tryd.func4 ⟨by kernel_rfl, trivial⟩ ?_
     refine hR _ _ ?_
     exact ⟨rfl, S15.nil⟩
  ·skip
   refine J.head (.bool true) (congrArg Value.bool (by rw [fk2]; rfl)) ?_
   have hz1 := fnd_bad (t := t) fk2
   have hz2 : atD l t = ⟨0, 0, 0, 0, 0⟩ := at_no (by rw [hz1.1]; decide)
   have hz3 : rampD l t = ⟨0, 0, 0, 0, 0⟩ := ramp_no (by rw [hz1.1]; decide)
   refine J.run 4 K4_28 [(32, .slice a n c), (8, .int .i64 (fndE l t)), (7, .pointer (some ⟨b2, 0, none⟩)), (6, .int .i64 (fndE l t)), (5, .pointer (some ⟨b1, 0, none⟩)), (0, .slice a n c)] w9 (by kernel_rfl) ?_
   refine J.callF 33 9 #[.slice a n c] hb9 (by kernel_rfl) (valid_any a n c l _ (hl.sep S9)) ?_
   rintro _ w16 ⟨rfl, T10⟩
   have S16 : Sep w [box b2 [.int .i64 ((rampD l t).gAt), .int .i64 ((rampD l t).gPedal), .int .i64 ((rampD l t).gBrake), .int .i64 ((rampD l t).gGear), .int .i64 ((rampD l t).gLoad)] 27, box b1 [.int .i64 ((atD l t).gAt), .int .i64 ((atD l t).gPedal), .int .i64 ((atD l t).gBrake), .int .i64 ((atD l t).gGear), .int .i64 ((atD l t).gLoad)] 27] w16 := S9.trans T10
   clear T10 S9
   refine J.head (.bool false) (congrArg Value.bool fk2) ?_
   refine J.run 3 K4_29 [(36, .slice a n c), (35, .bool true), (8, .int .i64 (fndE l t)), (7, .pointer (some ⟨b2, 0, none⟩)), (6, .int .i64 (fndE l t)), (5, .pointer (some ⟨b1, 0, none⟩))] w16 (by kernel_rfl) ?_
   refine J.callF 37 14 #[.slice a n c] hb14 (by kernel_rfl) (length_any a n c l _ (hl.sep S16)) ?_
   rintro _ w17 ⟨rfl, T11⟩
   have S17 : Sep w [box b2 [.int .i64 ((rampD l t).gAt), .int .i64 ((rampD l t).gPedal), .int .i64 ((rampD l t).gBrake), .int .i64 ((rampD l t).gGear), .int .i64 ((rampD l t).gLoad)] 27, box b1 [.int .i64 ((atD l t).gAt), .int .i64 ((atD l t).gPedal), .int .i64 ((atD l t).gBrake), .int .i64 ((atD l t).gGear), .int .i64 ((atD l t).gLoad)] 27] w17 := S16.trans T11
   clear T11 S16
   refine J.run 3 K4_30 [(40, .bool ((if validD l then (l.getD ((l.length : Int) - 1).toNat dr0).gAt else 0) == 0)), (8, .int .i64 (fndE l t)), (7, .pointer (some ⟨b2, 0, none⟩)), (6, .int .i64 (fndE l t)), (5, .pointer (some ⟨b1, 0, none⟩))] w17 (by kernel_rfl) ?_
   have fk23 : (if validD l then (l.getD ((l.length : Int) - 1).toNat dr0).gAt else 0) = 0 := (if_neg (by rw [fk2]; decide))
   refine J.head (.bool true) (congrArg Value.bool (beq_iff_eq.2 fk23)) ?_
   refine J.ok (OK.ldBox S17 1 41 27 0 (.agg #[.int .i64 ((atD l t).gAt), .int .i64 ((atD l t).gPedal), .int .i64 ((atD l t).gBrake), .int .i64 ((atD l t).gGear), .int .i64 ((atD l t).gLoad)]) (by kernel_rfl) rfl (by kernel_rfl)) ?_
   refine J.run 1 K4_31 [(42, .agg kvD20_1), (41, .agg #[.int .i64 ((atD l t).gAt), .int .i64 ((atD l t).gPedal), .int .i64 ((atD l t).gBrake), .int .i64 ((atD l t).gGear), .int .i64 ((atD l t).gLoad)]), (40, .bool true), (8, .int .i64 (fndE l t)), (7, .pointer (some ⟨b2, 0, none⟩)), (6, .int .i64 (fndE l t))] w17 (by kernel_rfl) ?_
   refine J.ok (OK.eqS 43 true 27 #[.int .i64 ((atD l t).gAt), .int .i64 ((atD l t).gPedal), .int .i64 ((atD l t).gBrake), .int .i64 ((atD l t).gGear), .int .i64 ((atD l t).gLoad)] kvD20_1 ((((atD l t).gAt) == 0) && ((((atD l t).gPedal) == 0) && ((((atD l t).gBrake) == 0) && ((((atD l t).gGear) == 0) && ((((atD l t).gLoad) == 0) && true))))) (by kernel_rfl) (by kernel_rfl) (by kernel_rfl) ((((atD l t).gAt) == 0) && ((((atD l t).gPedal) == 0) && ((((atD l t).gBrake) == 0) && ((((atD l t).gGear) == 0) && (((atD l t).gLoad) == 0))))) (by simp)) ?_
   refine J.run 2 K4_32 [(45, .bool ((((atD l t).gAt) == 0) && ((((atD l t).gPedal) == 0) && ((((atD l t).gBrake) == 0) && ((((atD l t).gGear) == 0) && (((atD l t).gLoad) == 0)))))), (8, .int .i64 (fndE l t)), (7, .pointer (some ⟨b2, 0, none⟩)), (6, .int .i64 (fndE l t))] w17 (by kernel_rfl) ?_
   have fk25 : ((((atD l t).gAt) == 0) && ((((atD l t).gPedal) == 0) && ((((atD l t).gBrake) == 0) && ((((atD l t).gGear) == 0) && (((atD l t).gLoad) == 0))))) = true := (by rw [hz2]; rfl)
   refine J.head (.bool true) (congrArg Value.bool fk25) ?_
   refine J.run 4 K4_33 [(49, .bool ((fndE l t) == 1)), (8, .int .i64 (fndE l t)), (7, .pointer (some ⟨b2, 0, none⟩))] w17 (by kernel_rfl) ?_
   have fk27 : (fndE l t) = 1 := hz1.1
   refine J.head (.bool true) (congrArg Value.bool (beq_iff_eq.2 fk27)) ?_
   refine J.ok (OK.ldBox S17 0 50 27 0 (.agg #[.int .i64 ((rampD l t).gAt), .int .i64 ((rampD l t).gPedal), .int .i64 ((rampD l t).gBrake), .int .i64 ((rampD l t).gGear), .int .i64 ((rampD l t).gLoad)]) (by kernel_rfl) rfl (by kernel_rfl)) ?_
   refine J.run 1 K4_34 [(51, .agg kvD20_1), (50, .agg #[.int .i64 ((rampD l t).gAt), .int .i64 ((rampD l t).gPedal), .int .i64 ((rampD l t).gBrake), .int .i64 ((rampD l t).gGear), .int .i64 ((rampD l t).gLoad)]), (49, .bool true), (8, .int .i64 (fndE l t))] w17 (by kernel_rfl) ?_
   refine J.ok (OK.eqS 52 true 27 #[.int .i64 ((rampD l t).gAt), .int .i64 ((rampD l t).gPedal), .int .i64 ((rampD l t).gBrake), .int .i64 ((rampD l t).gGear), .int .i64 ((rampD l t).gLoad)] kvD20_1 ((((rampD l t).gAt) == 0) && ((((rampD l t).gPedal) == 0) && ((((rampD l t).gBrake) == 0) && ((((rampD l t).gGear) == 0) && ((((rampD l t).gLoad) == 0) && true))))) (by kernel_rfl) (by kernel_rfl) (by kernel_rfl) ((((rampD l t).gAt) == 0) && ((((rampD l t).gPedal) == 0) && ((((rampD l t).gBrake) == 0) && ((((rampD l t).gGear) == 0) && (((rampD l t).gLoad) == 0))))) (by simp)) ?_
   refine J.run 2 K4_35 [(54, .bool ((((rampD l t).gAt) == 0) && ((((rampD l t).gPedal) == 0) && ((((rampD l t).gBrake) == 0) && ((((rampD l t).gGear) == 0) && (((rampD l t).gLoad) == 0)))))), (8, .int .i64 (fndE l t))] w17 (by kernel_rfl) ?_
   have fk29 : ((((rampD l t).gAt) == 0) && ((((rampD l t).gPedal) == 0) && ((((rampD l t).gBrake) == 0) && ((((rampD l t).gGear) == 0) && (((rampD l t).gLoad) == 0))))) = true := (by rw [hz3]; rfl)
   refine J.head (.bool true) (congrArg Value.bool fk29) ?_
   refine J.run 5 K4_36 [(4, .bool ((fndE l t) == 1))] w17 (by kernel_rfl) ?_
   refine J.ret Tryd.f4 [.bool ((fndE l t) == 1)] Tryd.func4 ⟨by kernel_rfl, trivial⟩ ?_
   refine hR _ _ ?_
   have fk30 : (fndE l t) = 1 := hz1.1
   exact ⟨congrArg Value.bool (beq_iff_eq.2 fk30), S17.nil⟩

end Go.Proofs.YthhdaackhfffiaaDoor

