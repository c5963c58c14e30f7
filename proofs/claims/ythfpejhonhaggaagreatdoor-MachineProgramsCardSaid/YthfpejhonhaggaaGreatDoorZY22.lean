/- Walks of functions of this seat, printed by a program over the engine. Conditions: as each theorem says. -/
import Derived.Test.YthfpejhonhaggaaGreatDoorZX17
import Derived.Test.YthfpejhonhaggaaGreatDoorZW21
namespace Go.Proofs.YthfpejhonhaggaaGreatDoor
open Go.Eng Go.RowKit
set_option linter.unusedSimpArgs false
set_option linter.unusedVariables false
theorem form_q {i : Ins} (h : formB i = true) (w : World) : insQ w i := by
  have hp := formB_iff.1 h
  exact ⟨by omega, by omega, by omega, by omega, by omega, trivial⟩
theorem parI_q (s : ByteArray) (w : World) : insQ w (parI s) := by
  have h0 : insQ w ins0 := ⟨by decide, by decide, by decide, by decide, by decide, trivial⟩
  unfold parI
  split
  · exact h0
  · split
    · rename_i j hj; exact form_q (filter_some hj).2 w
    · exact h0
theorem hb15 : HasBody Tryz.prog 15 := fun _ _ => by kernel_rfl
noncomputable def K15_0 : List Item := adv 7 [] (bodyOf Tryz.f15)
noncomputable def K15_1 : List Item := adv 1 [] (popK K15_0)
noncomputable def K15_2 : List Item := adv 3 [] (popK K15_1)
set_option maxRecDepth 20000 in
set_option maxHeartbeats 20000000 in
theorem bequal_any (la : Option Addr) (na ca : Nat) (xa : List Int) (lb : Option Addr) (nb cb : Nat) (xb : List Int) (w : World) (ha : Ones (Value.int .u8) w la na xa) (hb : Ones (Value.int .u8) w lb nb xb) (hpa : ∀ p, la = some p → p = ⟨p.block, p.off, none⟩) (hpb : ∀ p, lb = some p → p = ⟨p.block, p.off, none⟩) : Ret Tryz.prog 15 #[.slice la na ca, .slice lb nb cb] w (fun v w' => v = .bool ((bytesB xa).toList == (bytesB xb).toList) ∧ Sep w [] w') := by
 have S0 := Sep.refl w
 refine Ret.named fun R hR => ?_
 refine Ret.of_J (N := 10) [(0, .slice la na ca), (1, .slice lb nb cb)] Tryz.func15 rfl rfl (Nat.le_of_ble_eq_true (by kernel_rfl)) (by kernel_rfl) ?_
 refine J.run 7 K15_0 [(5, .slice la na ca), (1, .slice lb nb cb)] w (by kernel_rfl) ?_
 refine J.ok (OK.bytes 6 40 9 la na ca xa (by kernel_rfl) (by kernel_rfl) (ha.sep S0) hpa) ?_
 refine J.run 1 K15_1 [(7, .slice lb nb cb), (6, .string (bytesB xa))] w (by kernel_rfl) ?_
 refine J.ok (OK.bytes 8 40 9 lb nb cb xb (by kernel_rfl) (by kernel_rfl) (hb.sep S0) hpb) ?_
 refine J.run 3 K15_2 [(4, .bool ((bytesB xa).toList == (bytesB xb).toList))] w (by kernel_rfl) ?_
 refine J.ret Tryz.f15 [.bool ((bytesB xa).toList == (bytesB xb).toList)] Tryz.func15 ⟨by kernel_rfl, trivial⟩ ?_
 refine hR _ _ ?_
 exact ⟨rfl, S0.nil⟩

theorem hb4 : HasBody Tryz.prog 4 := fun _ _ => by kernel_rfl
noncomputable def K4_0 : List Item := adv 7 [] (bodyOf Tryz.f4)
noncomputable def K4_1 : List Item := adv 8 [] (popK K4_0)
noncomputable def K4_2 : List Item := adv 3 [] (popK K4_1)
noncomputable def K4_3 : List Item := adv 7 [] (popK (popK K4_2))
noncomputable def K4_4 : List Item := adv 1 [] K4_3
noncomputable def K4_5 : List Item := adv 2 [] (popK (popK K4_4))
noncomputable def K4_6 : List Item := adv 4 [] K4_5
noncomputable def K4_7 : List Item := adv 1 [] (popK K4_6)
noncomputable def K4_8 : List Item := adv 2 [] (popK K4_7)
noncomputable def K4_9 : List Item := adv 4 [] (popK (popK K4_8))
set_option maxRecDepth 20000 in
set_option maxHeartbeats 20000000 in
theorem awake_any  (w : World) (hW : TabW w) : Ret Tryz.prog 4 #[] w (fun v w' => v = .bool true ∧ Sep w [] w') := by
 have S0 := Sep.refl w
 refine Ret.named fun R hR => ?_
 refine Ret.of_J (N := 35) [] Tryz.func4 rfl rfl (Nat.le_of_ble_eq_true (by kernel_rfl)) (by kernel_rfl) ?_
 have hpi := parI_q (⟨#[109, 117, 108, 32, 114, 50, 32, 114, 48, 32, 114, 49, 32, 49, 55]⟩ : ByteArray) w
 have hxs : (⟨#[109, 117, 108, 32, 114, 50, 32, 114, 48, 32, 114, 49, 32, 49, 55]⟩ : ByteArray).size = 15 := rfl
 refine J.run 7 K4_0 [(6, .agg #[iv 1, iv 0, iv 0, iv 0, iv (-5)])] w (by kernel_rfl) ?_
 refine J.callF 7 13 #[.agg #[iv 1, iv 0, iv 0, iv 0, iv (-5)]] hb13 (by kernel_rfl) (encode_any (⟨1, 0, 0, 0, -5⟩ : Ins) _ (show insQ _ (⟨1, 0, 0, 0, -5⟩ : Ins) from ⟨(show (-9223372036854775808) ≤ (1 : Int) ∧ (1 : Int) ≤ 9223372036854775807 from by omega), (show (-9223372036854775808) ≤ (0 : Int) ∧ (0 : Int) ≤ 9223372036854775807 from by omega), (show (-9223372036854775808) ≤ (0 : Int) ∧ (0 : Int) ≤ 9223372036854775807 from by omega), (show (-9223372036854775808) ≤ (0 : Int) ∧ (0 : Int) ≤ 9223372036854775807 from by omega), (show (-9223372036854775808) ≤ (-5 : Int) ∧ (-5 : Int) ≤ 9223372036854775807 from by omega), trivial⟩)) ?_
 rintro _ w1 ⟨ra1, rc1, rfl, T1⟩
 have S1 : Sep w [rowOf (enc1 (Value.int .u8)) ra1 rc1 5 1 (encX (⟨1, 0, 0, 0, -5⟩ : Ins))] w1 := S0.trans T1
 clear T1
 have := encX_len (⟨1, 0, 0, 0, -5⟩ : Ins)
 refine J.run 8 K4_1 [(2, iv (encE (⟨1, 0, 0, 0, -5⟩ : Ins))), (1, .slice ra1 ((encX (⟨1, 0, 0, 0, -5⟩ : Ins)).length) rc1)] w1 (by kernel_rfl) ?_
 refine J.callF 11 14 #[.string ⟨#[109, 117, 108, 32, 114, 50, 32, 114, 48, 32, 114, 49, 32, 49, 55]⟩] hb14 (by kernel_rfl) (mparse_any (⟨#[109, 117, 108, 32, 114, 50, 32, 114, 48, 32, 114, 49, 32, 49, 55]⟩ : ByteArray) _ (by omega) (tabW_sep hW S1)) ?_
 rintro _ w2 ⟨rfl, T2⟩
 have S2 : Sep w [rowOf (enc1 (Value.int .u8)) ra1 rc1 5 1 (encX (⟨1, 0, 0, 0, -5⟩ : Ins))] w2 := S1.trans T2
 clear T2 S1
 refine J.run 3 K4_2 [(13, iv (parIE (⟨#[109, 117, 108, 32, 114, 50, 32, 114, 48, 32, 114, 49, 32, 49, 55]⟩ : ByteArray))), (12, .agg (insA (parI (⟨#[109, 117, 108, 32, 114, 50, 32, 114, 48, 32, 114, 49, 32, 49, 55]⟩ : ByteArray)))), (2, iv (encE (⟨1, 0, 0, 0, -5⟩ : Ins))), (1, .slice ra1 ((encX (⟨1, 0, 0, 0, -5⟩ : Ins)).length) rc1)] w2 (by kernel_rfl) ?_
 refine J.new S2 3 [iv 0, iv 0, iv 0, iv 0, iv 0] 44 (by kernel_rfl) ?_
 intro b1 w3 S3
 refine J.stBox S3 0 44 0 (.agg (insA (parI (⟨#[109, 117, 108, 32, 114, 50, 32, 114, 48, 32, 114, 49, 32, 49, 55]⟩ : ByteArray)))) (insC (parI (⟨#[109, 117, 108, 32, 114, 50, 32, 114, 48, 32, 114, 49, 32, 49, 55]⟩ : ByteArray))) [box b1 (insC (parI (⟨#[109, 117, 108, 32, 114, 50, 32, 114, 48, 32, 114, 49, 32, 49, 55]⟩ : ByteArray))) 44, rowOf (enc1 (Value.int .u8)) ra1 rc1 5 1 (encX (⟨1, 0, 0, 0, -5⟩ : Ins))] (by kernel_rfl) rfl (by kernel_rfl) (by kernel_rfl) rfl ?_
 intro w4 S4
 refine J.run 7 K4_3 [(16, .bool ((encE (⟨1, 0, 0, 0, -5⟩ : Ins)) == 0)), (4, iv (parIE (⟨#[109, 117, 108, 32, 114, 50, 32, 114, 48, 32, 114, 49, 32, 49, 55]⟩ : ByteArray))), (3, pv b1), (1, .slice ra1 ((encX (⟨1, 0, 0, 0, -5⟩ : Ins)).length) rc1)] w4 (by kernel_rfl) ?_
 have fk2 : (encE (⟨1, 0, 0, 0, -5⟩ : Ins)) = 0 := (by kernel_rfl)
 refine J.head (.bool true) (congrArg Value.bool (beq_iff_eq.2 fk2)) ?_
 refine J.run 1 K4_4 [(17, .slice ra1 ((encX (⟨1, 0, 0, 0, -5⟩ : Ins)).length) rc1), (16, .bool true), (4, iv (parIE (⟨#[109, 117, 108, 32, 114, 50, 32, 114, 48, 32, 114, 49, 32, 49, 55]⟩ : ByteArray))), (3, pv b1)] w4 (by kernel_rfl) ?_
 refine J.newSlice S4 18 12 [.int .u8 1, .int .u8 0, .int .u8 0, .int .u8 0, .int .u8 255, .int .u8 255, .int .u8 255, .int .u8 255, .int .u8 255, .int .u8 255, .int .u8 255, .int .u8 251] 5 (by kernel_rfl) ?_
 intro b2 w5 S5
 have := rowOf_len (S5.nth 2 rfl)
 have := rowOf_len (S5.nth 2 rfl)
 refine J.callF 19 15 #[.slice ra1 ((encX (⟨1, 0, 0, 0, -5⟩ : Ins)).length) rc1, .slice (some ⟨b2, 0, none⟩) 12 12] hb15 (by kernel_rfl) (bequal_any ra1 ((encX (⟨1, 0, 0, 0, -5⟩ : Ins)).length) rc1 (encX (⟨1, 0, 0, 0, -5⟩ : Ins)) (some ⟨b2, 0, none⟩) 12 12 ([1, 0, 0, 0, 255, 255, 255, 255, 255, 255, 255, 251]) _ ((row1_ones (S5.nth 2 rfl) ((encX (⟨1, 0, 0, 0, -5⟩ : Ins)).length) (by first | rfl | omega | simp))) ((show Ones (Value.int .u8) w5 (some ⟨b2, 0, none⟩) 12 [1, 0, 0, 0, 255, 255, 255, 255, 255, 255, 255, 251] from ⟨rfl, box_cells (S5.nth 0 rfl)⟩)) (fun p hp => by rw [rowOf_plain (S5.nth 2 rfl) p hp]) (fun p hp => by cases hp; rfl)) ?_
 rintro _ w6 ⟨rfl, T3⟩
 have S6 : Sep w [box b2 [.int .u8 1, .int .u8 0, .int .u8 0, .int .u8 0, .int .u8 255, .int .u8 255, .int .u8 255, .int .u8 255, .int .u8 255, .int .u8 255, .int .u8 255, .int .u8 251] 5, box b1 (insC (parI (⟨#[109, 117, 108, 32, 114, 50, 32, 114, 48, 32, 114, 49, 32, 49, 55]⟩ : ByteArray))) 44, rowOf (enc1 (Value.int .u8)) ra1 rc1 5 1 (encX (⟨1, 0, 0, 0, -5⟩ : Ins))] w6 := S5.trans T3
 clear T3 S5
 refine J.run 2 K4_5 [(21, .bool ((bytesB (encX (⟨1, 0, 0, 0, -5⟩ : Ins))).toList == (bytesB ([1, 0, 0, 0, 255, 255, 255, 255, 255, 255, 255, 251])).toList)), (4, iv (parIE (⟨#[109, 117, 108, 32, 114, 50, 32, 114, 48, 32, 114, 49, 32, 49, 55]⟩ : ByteArray))), (3, pv b1)] w6 (by kernel_rfl) ?_
 have fk4 : ((bytesB (encX (⟨1, 0, 0, 0, -5⟩ : Ins))).toList == (bytesB ([1, 0, 0, 0, 255, 255, 255, 255, 255, 255, 255, 251])).toList) = true := (by kernel_rfl)
 refine J.head (.bool true) (congrArg Value.bool fk4) ?_
 refine J.run 4 K4_6 [(25, .bool ((parIE (⟨#[109, 117, 108, 32, 114, 50, 32, 114, 48, 32, 114, 49, 32, 49, 55]⟩ : ByteArray)) == 0)), (3, pv b1)] w6 (by kernel_rfl) ?_
 have fk6 : (parIE (⟨#[109, 117, 108, 32, 114, 50, 32, 114, 48, 32, 114, 49, 32, 49, 55]⟩ : ByteArray)) = 0 := (by kernel_rfl)
 refine J.head (.bool true) (congrArg Value.bool (beq_iff_eq.2 fk6)) ?_
 refine J.ok (OK.ldBox S6 1 26 44 0 (.agg (insA (parI (⟨#[109, 117, 108, 32, 114, 50, 32, 114, 48, 32, 114, 49, 32, 49, 55]⟩ : ByteArray)))) (by kernel_rfl) rfl (by kernel_rfl)) ?_
 refine J.run 1 K4_7 [(27, .agg #[iv 7, iv 2, iv 0, iv 1, iv 17]), (26, .agg (insA (parI (⟨#[109, 117, 108, 32, 114, 50, 32, 114, 48, 32, 114, 49, 32, 49, 55]⟩ : ByteArray)))), (25, .bool true), (3, pv b1)] w6 (by kernel_rfl) ?_
 refine J.ok (OK.eqS 28 true 44 (insA (parI (⟨#[109, 117, 108, 32, 114, 50, 32, 114, 48, 32, 114, 49, 32, 49, 55]⟩ : ByteArray))) #[iv 7, iv 2, iv 0, iv 1, iv 17] ((((parI (⟨#[109, 117, 108, 32, 114, 50, 32, 114, 48, 32, 114, 49, 32, 49, 55]⟩ : ByteArray)).gOp) == 7) && ((((parI (⟨#[109, 117, 108, 32, 114, 50, 32, 114, 48, 32, 114, 49, 32, 49, 55]⟩ : ByteArray)).gA) == 2) && ((((parI (⟨#[109, 117, 108, 32, 114, 50, 32, 114, 48, 32, 114, 49, 32, 49, 55]⟩ : ByteArray)).gB) == 0) && ((((parI (⟨#[109, 117, 108, 32, 114, 50, 32, 114, 48, 32, 114, 49, 32, 49, 55]⟩ : ByteArray)).gC) == 1) && ((((parI (⟨#[109, 117, 108, 32, 114, 50, 32, 114, 48, 32, 114, 49, 32, 49, 55]⟩ : ByteArray)).gK) == 17) && true))))) (by kernel_rfl) (by kernel_rfl) (by kernel_rfl) ((((parI (⟨#[109, 117, 108, 32, 114, 50, 32, 114, 48, 32, 114, 49, 32, 49, 55]⟩ : ByteArray)).gOp) == 7) && ((((parI (⟨#[109, 117, 108, 32, 114, 50, 32, 114, 48, 32, 114, 49, 32, 49, 55]⟩ : ByteArray)).gA) == 2) && ((((parI (⟨#[109, 117, 108, 32, 114, 50, 32, 114, 48, 32, 114, 49, 32, 49, 55]⟩ : ByteArray)).gB) == 0) && ((((parI (⟨#[109, 117, 108, 32, 114, 50, 32, 114, 48, 32, 114, 49, 32, 49, 55]⟩ : ByteArray)).gC) == 1) && (((parI (⟨#[109, 117, 108, 32, 114, 50, 32, 114, 48, 32, 114, 49, 32, 49, 55]⟩ : ByteArray)).gK) == 17))))) (by simp)) ?_
 refine J.run 2 K4_8 [(30, .bool ((((parI (⟨#[109, 117, 108, 32, 114, 50, 32, 114, 48, 32, 114, 49, 32, 49, 55]⟩ : ByteArray)).gOp) == 7) && ((((parI (⟨#[109, 117, 108, 32, 114, 50, 32, 114, 48, 32, 114, 49, 32, 49, 55]⟩ : ByteArray)).gA) == 2) && ((((parI (⟨#[109, 117, 108, 32, 114, 50, 32, 114, 48, 32, 114, 49, 32, 49, 55]⟩ : ByteArray)).gB) == 0) && ((((parI (⟨#[109, 117, 108, 32, 114, 50, 32, 114, 48, 32, 114, 49, 32, 49, 55]⟩ : ByteArray)).gC) == 1) && (((parI (⟨#[109, 117, 108, 32, 114, 50, 32, 114, 48, 32, 114, 49, 32, 49, 55]⟩ : ByteArray)).gK) == 17)))))), (3, pv b1)] w6 (by kernel_rfl) ?_
 have fk8 : ((((parI (⟨#[109, 117, 108, 32, 114, 50, 32, 114, 48, 32, 114, 49, 32, 49, 55]⟩ : ByteArray)).gOp) == 7) && ((((parI (⟨#[109, 117, 108, 32, 114, 50, 32, 114, 48, 32, 114, 49, 32, 49, 55]⟩ : ByteArray)).gA) == 2) && ((((parI (⟨#[109, 117, 108, 32, 114, 50, 32, 114, 48, 32, 114, 49, 32, 49, 55]⟩ : ByteArray)).gB) == 0) && ((((parI (⟨#[109, 117, 108, 32, 114, 50, 32, 114, 48, 32, 114, 49, 32, 49, 55]⟩ : ByteArray)).gC) == 1) && (((parI (⟨#[109, 117, 108, 32, 114, 50, 32, 114, 48, 32, 114, 49, 32, 49, 55]⟩ : ByteArray)).gK) == 17))))) = true := (by kernel_rfl)
 refine J.head (.bool true) (congrArg Value.bool fk8) ?_
 refine J.ok (OK.ldBox S6 1 31 44 0 (.agg (insA (parI (⟨#[109, 117, 108, 32, 114, 50, 32, 114, 48, 32, 114, 49, 32, 49, 55]⟩ : ByteArray)))) (by kernel_rfl) rfl (by kernel_rfl)) ?_
 refine J.callF 32 16 #[.agg (insA (parI (⟨#[109, 117, 108, 32, 114, 50, 32, 114, 48, 32, 114, 49, 32, 49, 55]⟩ : ByteArray)))] hb16 (by kernel_rfl) (mtext_any (parI (⟨#[109, 117, 108, 32, 114, 50, 32, 114, 48, 32, 114, 49, 32, 49, 55]⟩ : ByteArray)) _ (insQ_sep hpi S6) (tabW_sep hW S6)) ?_
 rintro _ w7 ⟨rfl, T4⟩
 have S7 : Sep w [box b2 [.int .u8 1, .int .u8 0, .int .u8 0, .int .u8 0, .int .u8 255, .int .u8 255, .int .u8 255, .int .u8 255, .int .u8 255, .int .u8 255, .int .u8 255, .int .u8 251] 5, box b1 (insC (parI (⟨#[109, 117, 108, 32, 114, 50, 32, 114, 48, 32, 114, 49, 32, 49, 55]⟩ : ByteArray))) 44, rowOf (enc1 (Value.int .u8)) ra1 rc1 5 1 (encX (⟨1, 0, 0, 0, -5⟩ : Ins))] w7 := S6.trans T4
 clear T4 S6
 refine J.run 4 K4_9 [(0, .bool ((textI (parI (⟨#[109, 117, 108, 32, 114, 50, 32, 114, 48, 32, 114, 49, 32, 49, 55]⟩ : ByteArray))).toList == (⟨#[109, 117, 108, 32, 114, 50, 32, 114, 48, 32, 114, 49, 32, 49, 55]⟩ : ByteArray).toList))] w7 (by kernel_rfl) ?_
 refine J.ret Tryz.f4 [.bool ((textI (parI (⟨#[109, 117, 108, 32, 114, 50, 32, 114, 48, 32, 114, 49, 32, 49, 55]⟩ : ByteArray))).toList == (⟨#[109, 117, 108, 32, 114, 50, 32, 114, 48, 32, 114, 49, 32, 49, 55]⟩ : ByteArray).toList)] Tryz.func4 ⟨by kernel_rfl, trivial⟩ ?_
 refine hR _ _ ?_
 exact ⟨congrArg Value.bool (by kernel_rfl), S7.nil⟩

noncomputable def K3_0 : List Item := adv 2 [] (bodyOf Tryz.f3)
noncomputable def K3_1 : List Item := adv 5 [] (popK K3_0)
noncomputable def K3_2 : List Item := adv 7 [false] (popK K3_1)
noncomputable def K3_3 : List Item := adv 1 [] (popK (popK K3_2))
noncomputable def K3_4 : List Item := adv 5 [true] K3_3
noncomputable def K3_5 : List Item := adv 4 [false] K3_3
noncomputable def K3_6 : List Item := adv 3 [] (popK (popK K3_5))
noncomputable def K3_7 : List Item := adv 5 [] (popK (popK K3_6))
noncomputable def K3_8 : List Item := adv 2 [] (popK (popK K3_7))
noncomputable def K3_9 : List Item := adv 3 [false] K3_8
noncomputable def K3_10 : List Item := adv 3 [true] K3_8
noncomputable def K3_11 : List Item := adv 6 [] (popK (popK K3_10))
noncomputable def K3_12 : List Item := adv 1 [] (popK K3_11)
noncomputable def K3_13 : List Item := adv 2 [] (popK K3_12)
noncomputable def K3_14 : List Item := adv 4 [] (popK (popK K3_13))
set_option maxRecDepth 20000 in
set_option maxHeartbeats 20000000 in
theorem lawprograms_any (p : Prg) (w : World) (hp : prgQ w p) (hW : TabW w) : Ret Tryz.prog 3 #[.agg (prgA p)] w (fun v w' => v = .bool true ∧ Sep w [] w') := by
 have S0 := Sep.refl w
 refine Ret.named fun R hR => ?_
 refine Ret.of_J (N := 53) [(0, .agg (prgA p))] Tryz.func3 rfl rfl (Nat.le_of_ble_eq_true (by kernel_rfl)) (by kernel_rfl) ?_
 obtain ⟨q1, q2, q3, q4, q5, q6, q7, q8, q9, q10, q11, q12, q13, q14, q15, q16, q17, q18, q19, q20, q21, q22, q23, q24, q25, _⟩ := id hp
 have ql1 := q2.len_eq
 have ql2 := q5.len_eq
 have ql3 := q8.len_eq
 have ql4 := q11.len_eq
 have ql5 := q15.len_eq
 have ql6 := q18.len_eq
 have ql7 := q21.len_eq
 have ql8 := q24.len_eq
 refine J.run 2 K3_0 [(0, .agg (prgA p))] w (by kernel_rfl) ?_
 refine J.new S0 1 (prgC p) 28 (by kernel_rfl) ?_
 intro b1 w1 S1
 refine J.run 5 K3_1 [(1, pv b1)] w1 (by kernel_rfl) ?_
 refine J.callF 5 4 #[] hb4 (by kernel_rfl) (awake_any  _ (tabW_sep hW S1)) ?_
 rintro _ w2 ⟨rfl, T1⟩
 have S2 : Sep w [box b1 (prgC p) 28] w2 := S1.trans T1
 clear T1 S1
 refine J.run 7 K3_2 [(1, pv b1)] w2 (by kernel_rfl) ?_
 refine J.ok (OK.ldBox S2 0 7 28 0 (.agg (prgA p)) (by kernel_rfl) rfl (by kernel_rfl)) ?_
 refine J.callF 8 5 #[.agg (prgA p)] hb5 (by kernel_rfl) (great_any p _ (prgQ_sep hp S2)) ?_
 rintro _ w3 ⟨gb1, rfl, T2⟩
 have S3 : Sep w [box b1 (prgC p) 28] w3 := S2.trans T2
 clear T2 S2
 refine J.run 1 K3_3 [(8, .bool gb1), (1, pv b1)] w3 (by kernel_rfl) ?_
 rcases Bool.eq_false_or_eq_true gb1 with fk1 | fk1
 ·skip
  refine J.head (.bool true) (congrArg Value.bool fk1) ?_
  refine J.run 5 K3_4 [(2, .bool true)] w3 (by kernel_rfl) ?_
  refine J.ret Tryz.f3 [.bool true] Tryz.func3 ⟨by kernel_rfl, trivial⟩ ?_
  refine hR _ _ ?_
  exact ⟨rfl, S3.nil⟩
 ·skip
  refine J.head (.bool false) (congrArg Value.bool fk1) ?_
  refine J.run 4 K3_5 [(1, pv b1)] w3 (by kernel_rfl) ?_
  refine J.ok (OK.ldBox S3 0 10 28 0 (.agg (prgA p)) (by kernel_rfl) rfl (by kernel_rfl)) ?_
  refine J.callF 11 6 #[.agg (prgA p)] hb6 (by kernel_rfl) (new_any p _ (prgQ_sep hp S3)) ?_
  rintro _ w4 ⟨ra1, rc1, rfl, T3⟩
  have S4 : Sep w [rowOf encI ra1 rc1 3 1 (newX p), box b1 (prgC p) 28] w4 := S3.trans T3
  clear T3 S3
  refine J.run 3 K3_6 [(13, iv (newE p)), (12, .agg #[iv 0, iv 0, iv 0, iv 0, iv 0, iv 0, iv 0, iv 0, iv 0, iv 0, iv 0, iv 0, iv 0, iv 0, iv 0, iv 0, .slice ra1 ((newX p).length) rc1]), (1, pv b1)] w4 (by kernel_rfl) ?_
  refine J.new S4 3 [iv 0, iv 0, iv 0, iv 0, iv 0, iv 0, iv 0, iv 0, iv 0, iv 0, iv 0, iv 0, iv 0, iv 0, iv 0, iv 0, .slice none 0 0] 33 (by kernel_rfl) ?_
  intro b2 w5 S5
  refine J.stBox S5 0 33 0 (.agg #[iv 0, iv 0, iv 0, iv 0, iv 0, iv 0, iv 0, iv 0, iv 0, iv 0, iv 0, iv 0, iv 0, iv 0, iv 0, iv 0, .slice ra1 ((newX p).length) rc1]) [iv 0, iv 0, iv 0, iv 0, iv 0, iv 0, iv 0, iv 0, iv 0, iv 0, iv 0, iv 0, iv 0, iv 0, iv 0, iv 0, .slice ra1 ((newX p).length) rc1] [box b2 [iv 0, iv 0, iv 0, iv 0, iv 0, iv 0, iv 0, iv 0, iv 0, iv 0, iv 0, iv 0, iv 0, iv 0, iv 0, iv 0, .slice ra1 ((newX p).length) rc1] 33, rowOf encI ra1 rc1 3 1 (newX p), box b1 (prgC p) 28] (by kernel_rfl) rfl (by kernel_rfl) (by kernel_rfl) rfl ?_
  intro w6 S6
  refine J.run 5 K3_7 [(4, iv (newE p)), (3, pv b2), (1, pv b1)] w6 (by kernel_rfl) ?_
  refine J.ok (OK.ldBox S6 2 14 28 0 (.agg (prgA p)) (by kernel_rfl) rfl (by kernel_rfl)) ?_
  refine J.callF 15 7 #[.agg (prgA p)] hb7 (by kernel_rfl) (rpvalid_any p _ (prgQ_sep hp S6)) ?_
  rintro _ w7 ⟨rfl, T4⟩
  have S7 : Sep w [box b2 [iv 0, iv 0, iv 0, iv 0, iv 0, iv 0, iv 0, iv 0, iv 0, iv 0, iv 0, iv 0, iv 0, iv 0, iv 0, iv 0, .slice ra1 ((newX p).length) rc1] 33, rowOf encI ra1 rc1 3 1 (newX p), box b1 (prgC p) 28] w7 := S6.trans T4
  clear T4 S6
  refine J.run 2 K3_8 [(16, .bool (!(validP p))), (4, iv (newE p)), (3, pv b2), (1, pv b1)] w7 (by kernel_rfl) ?_
  rcases Bool.eq_false_or_eq_true (validP p) with fk2 | fk2
  ·skip
   refine J.head (.bool false) (congrArg Value.bool (by rw [fk2]; rfl)) ?_
   have hv := fk2
   refine J.run 3 K3_9 [(4, iv (newE p)), (3, pv b2), (1, pv b1)] w7 (by kernel_rfl) ?_
   have fk3 : (newE p) = 0 := (newX_yes fk2).2
   have fk4 : (sameR [0, 0, 0, 0, 0, 0, 0, 0, 0, 0, 0, 0, 0, 0, 0, 0] [0, 0, 0, 0, 0, 0, 0, 0, 0, 0, 0, 0, 0, 0, 0, 0] (newX p) (newN p (p).gStates_l.length)) = true := by rw [(newX_yes fk2).1]; exact sameR_refl _ _
   refine J.drawPlan (fun w_ => Sep w [box b2 [iv 0, iv 0, iv 0, iv 0, iv 0, iv 0, iv 0, iv 0, iv 0, iv 0, iv 0, iv 0, iv 0, iv 0, iv 0, iv 0, .slice ra1 ((newX p).length) rc1] 33, rowOf encI ra1 rc1 3 1 (newX p), box b1 (prgC p) 28] w_) [(0, true), (1, false), (2, true), (3, true), (4, true), (5, true), (6, true), (7, true), (8, true), (9, false), (10, false), (11, true), (12, true), (13, true), (15, true), (14, false), (16, false), (17, true), (18, true), (19, true)] S7 Tryz.mixed (by kernel_rfl) (planOK_of (T := [(0, some 34, 2), (1, some 35, 17179869184), (2, some 36, 34359738368), (4, some 37, 68719476752), (12, some 38, 206158430208), (20, some 39, 343597383680), (36, some 40, 549755813888), (64, some 41, 1099511627784), (64, some 42, 1099511627778), (320, some 43, 5497558138880), (704, some 44, 12094627905536), (1088, some 45, 18691697672192), (3072, some 46, 35184372088832), (4096, some 47, 70368744177666), (12288, some 48, 211106232532992), (4096, some 49, 70368744177666), (53248, some 50, 633318697598976), (86016, some 51, 1477743627730944), (135168, some 52, 2322168557862912), (524287, some 2, 4503599627370496)]) (by kernel_rfl) (by kernel_rfl)) ?_
   intro w8 S8
   refine PB.mk S8 ?_
   refine PL.takeOK 0 (fun w_ S_ => OK.ldBox S_ 2 34 28 0 (.agg (prgA p)) (by kernel_rfl) rfl (by kernel_rfl)) rfl ?_
   refine PL.callF 35 8 #[.agg (prgA p)] hb8 (by kernel_rfl) (pvalid_any p _ (prgQ_sep hp S8)) ?_
   rintro _ w9 ⟨rfl, T5⟩
   have S9 : Sep w [box b2 [iv 0, iv 0, iv 0, iv 0, iv 0, iv 0, iv 0, iv 0, iv 0, iv 0, iv 0, iv 0, iv 0, iv 0, iv 0, iv 0, .slice ra1 ((newX p).length) rc1] 33, rowOf encI ra1 rc1 3 1 (newX p), box b1 (prgC p) 28] w9 := S8.trans T5
   clear T5 S8
   refine PB.head (.bool true) (congrArg Value.bool fk2) ?_
   refine PB.mk S9 ?_
   refine PL.take 2 36 (.bool true) (fun _ _ => by kernel_rfl) ?_
   refine PL.take 3 37 (iv (newE p)) (fun _ _ => by kernel_rfl) ?_
   refine PL.take 4 38 (.bool ((newE p) == 0)) (fun _ _ => by kernel_rfl) ?_
   refine PL.head (.bool true) (congrArg Value.bool (beq_iff_eq.2 fk3)) ?_
   refine PL.take 5 39 (.bool true) (fun _ _ => by kernel_rfl) ?_
   refine PL.take 6 40 (.bool true) (fun _ _ => by kernel_rfl) ?_
   refine PL.takeOK 7 (fun w_ S_ => OK.ldBox S_ 0 41 33 0 (.agg #[iv 0, iv 0, iv 0, iv 0, iv 0, iv 0, iv 0, iv 0, iv 0, iv 0, iv 0, iv 0, iv 0, iv 0, iv 0, iv 0, .slice ra1 ((newX p).length) rc1]) (by kernel_rfl) rfl (by kernel_rfl)) rfl ?_
   refine PL.takeOK 8 (fun w_ S_ => OK.ldBox S_ 2 42 28 0 (.agg (prgA p)) (by kernel_rfl) rfl (by kernel_rfl)) rfl ?_
   refine PL.callF 43 11 #[.agg (prgA p)] hb11 (by kernel_rfl) (rnew_any p _ (prgQ_sep hp S9) hv) ?_
   rintro _ w10 ⟨ra2, rc2, rfl, T6⟩
   have S10 : Sep w [rowOf encI ra2 rc2 3 1 (newN p (p).gStates_l.length), box b2 [iv 0, iv 0, iv 0, iv 0, iv 0, iv 0, iv 0, iv 0, iv 0, iv 0, iv 0, iv 0, iv 0, iv 0, iv 0, iv 0, .slice ra1 ((newX p).length) rc1] 33, rowOf encI ra1 rc1 3 1 (newX p), box b1 (prgC p) 28] w10 := S9.trans T6
   clear T6 S9
   refine PB.mk (S10.erase 0) ?_
   have := rowOf_len (S10.nth 2 rfl)
   have := rowOf_len (S10.nth 0 rfl)
   have := rowOf_len (S10.nth 2 rfl)
   have := rowOf_len (S10.nth 0 rfl)
   refine PL.callF 44 9 #[.agg #[iv 0, iv 0, iv 0, iv 0, iv 0, iv 0, iv 0, iv 0, iv 0, iv 0, iv 0, iv 0, iv 0, iv 0, iv 0, iv 0, .slice ra1 ((newX p).length) rc1], .agg #[iv 0, iv 0, iv 0, iv 0, iv 0, iv 0, iv 0, iv 0, iv 0, iv 0, iv 0, iv 0, iv 0, iv 0, iv 0, iv 0, .slice ra2 ((newN p (p).gStates_l.length).length) rc2]] hb9 (by kernel_rfl) (same_any 0 0 0 0 0 0 0 0 0 0 0 0 0 0 0 0 0 0 0 0 0 0 0 0 0 0 0 0 0 0 0 0 ra1 ((newX p).length) rc1 (newX p) ra2 ((newN p (p).gStates_l.length).length) rc2 (newN p (p).gStates_l.length) _ ((row1_ones (S10.nth 2 rfl) ((newX p).length) (by first | rfl | omega | simp))) ((row1_ones (S10.nth 0 rfl) ((newN p (p).gStates_l.length).length) (by first | rfl | omega | simp))) (by first | omega | (simp; omega))) ?_
   rintro _ w11 ⟨rfl, T7⟩
   have S11 : Sep w [rowOf encI ra2 rc2 3 1 (newN p (p).gStates_l.length), box b2 [iv 0, iv 0, iv 0, iv 0, iv 0, iv 0, iv 0, iv 0, iv 0, iv 0, iv 0, iv 0, iv 0, iv 0, iv 0, iv 0, .slice ra1 ((newX p).length) rc1] 33, rowOf encI ra1 rc1 3 1 (newX p), box b1 (prgC p) 28] w11 := S10.trans T7
   clear T7 S10
   refine PB.head (.bool true) (congrArg Value.bool fk4) ?_
   refine PB.mk (S11.erase 0) ?_
   refine PL.take 11 45 (.bool true) (fun _ _ => by kernel_rfl) ?_
   refine PL.take 12 46 (.bool true) (fun _ _ => by kernel_rfl) ?_
   refine PL.takeOK 13 (fun w_ S_ => OK.ldBox S_ 2 47 28 0 (.agg (prgA p)) (by kernel_rfl) rfl (by kernel_rfl)) rfl ?_
   refine PL.takeOK 15 (fun w_ S_ => OK.ldBox S_ 2 49 28 0 (.agg (prgA p)) (by kernel_rfl) rfl (by kernel_rfl)) rfl ?_
   refine PL.callF 48 10 #[.agg (prgA p)] hb10 (by kernel_rfl) (cost_any p _ (prgQ_sep hp S11)) ?_
   rintro _ w12 ⟨rfl, T8⟩
   have S12 : Sep w [rowOf encI ra2 rc2 3 1 (newN p (p).gStates_l.length), box b2 [iv 0, iv 0, iv 0, iv 0, iv 0, iv 0, iv 0, iv 0, iv 0, iv 0, iv 0, iv 0, iv 0, iv 0, iv 0, iv 0, .slice ra1 ((newX p).length) rc1] 33, rowOf encI ra1 rc1 3 1 (newX p), box b1 (prgC p) 28] w12 := S11.trans T8
   clear T8 S11
   refine PB.mk (S12.erase 0) ?_
   refine PL.callF 50 12 #[.agg (prgA p)] hb12 (by kernel_rfl) (rcost_any p _ (prgQ_sep hp S12) hv) ?_
   rintro _ w13 ⟨rfl, T9⟩
   have S13 : Sep w [rowOf encI ra2 rc2 3 1 (newN p (p).gStates_l.length), box b2 [iv 0, iv 0, iv 0, iv 0, iv 0, iv 0, iv 0, iv 0, iv 0, iv 0, iv 0, iv 0, iv 0, iv 0, iv 0, iv 0, .slice ra1 ((newX p).length) rc1] 33, rowOf encI ra1 rc1 3 1 (newX p), box b1 (prgC p) 28] w13 := S12.trans T9
   clear T9 S12
   refine PB.mk (S13.erase 0) ?_
   refine PL.take 17 51 (.bool ((costX p) == (costX p))) (fun _ _ => by kernel_rfl) ?_
   refine PL.head (.bool true) (congrArg Value.bool (by simp)) ?_
   refine PL.take 18 52 (.bool true) (fun _ _ => by kernel_rfl) ?_
   refine PL.take 19 2 (.bool true) (fun _ _ => by kernel_rfl) ?_
   refine PL.done ?_
   refine J.run 0 (rRest K3_9) [(2, .bool true)] w13 (by kernel_rfl) ?_
   refine J.ret Tryz.f3 [.bool true] Tryz.func3 ⟨by kernel_rfl, trivial⟩ ?_
   refine hR _ _ ?_
   exact ⟨rfl, S13.nil⟩
  ·skip
   refine J.head (.bool true) (congrArg Value.bool (by rw [fk2]; rfl)) ?_
   refine J.run 3 K3_10 [(4, iv (newE p)), (3, pv b2), (1, pv b1)] w7 (by kernel_rfl) ?_
   refine J.ok (OK.ldBox S7 2 17 28 0 (.agg (prgA p)) (by kernel_rfl) rfl (by kernel_rfl)) ?_
   refine J.callF 18 8 #[.agg (prgA p)] hb8 (by kernel_rfl) (pvalid_any p _ (prgQ_sep hp S7)) ?_
   rintro _ w14 ⟨rfl, T10⟩
   have S14 : Sep w [box b2 [iv 0, iv 0, iv 0, iv 0, iv 0, iv 0, iv 0, iv 0, iv 0, iv 0, iv 0, iv 0, iv 0, iv 0, iv 0, iv 0, .slice ra1 ((newX p).length) rc1] 33, rowOf encI ra1 rc1 3 1 (newX p), box b1 (prgC p) 28] w14 := S7.trans T10
   clear T10 S7
   refine J.head (.bool false) (congrArg Value.bool fk2) ?_
   refine J.run 6 K3_11 [(24, .bool ((newE p) == 1)), (3, pv b2), (1, pv b1)] w14 (by kernel_rfl) ?_
   have fk6 : (newE p) = 1 := (newX_no fk2).2
   refine J.head (.bool true) (congrArg Value.bool (beq_iff_eq.2 fk6)) ?_
   refine J.ok (OK.ldBox S14 0 25 33 0 (.agg #[iv 0, iv 0, iv 0, iv 0, iv 0, iv 0, iv 0, iv 0, iv 0, iv 0, iv 0, iv 0, iv 0, iv 0, iv 0, iv 0, .slice ra1 ((newX p).length) rc1]) (by kernel_rfl) rfl (by kernel_rfl)) ?_
   refine J.run 1 K3_12 [(26, .agg #[iv 0, iv 0, iv 0, iv 0, iv 0, iv 0, iv 0, iv 0, iv 0, iv 0, iv 0, iv 0, iv 0, iv 0, iv 0, iv 0, .slice none 0 0]), (25, .agg #[iv 0, iv 0, iv 0, iv 0, iv 0, iv 0, iv 0, iv 0, iv 0, iv 0, iv 0, iv 0, iv 0, iv 0, iv 0, iv 0, .slice ra1 ((newX p).length) rc1]), (24, .bool true), (1, pv b1)] w14 (by kernel_rfl) ?_
   have := rowOf_len (S14.nth 1 rfl)
   have := rowOf_len (S14.nth 1 rfl)
   refine J.callF 27 9 #[.agg #[iv 0, iv 0, iv 0, iv 0, iv 0, iv 0, iv 0, iv 0, iv 0, iv 0, iv 0, iv 0, iv 0, iv 0, iv 0, iv 0, .slice ra1 ((newX p).length) rc1], .agg #[iv 0, iv 0, iv 0, iv 0, iv 0, iv 0, iv 0, iv 0, iv 0, iv 0, iv 0, iv 0, iv 0, iv 0, iv 0, iv 0, .slice none 0 0]] hb9 (by kernel_rfl) (same_any 0 0 0 0 0 0 0 0 0 0 0 0 0 0 0 0 0 0 0 0 0 0 0 0 0 0 0 0 0 0 0 0 ra1 ((newX p).length) rc1 (newX p) none 0 0 ([]) _ ((row1_ones (S14.nth 1 rfl) ((newX p).length) (by first | rfl | omega | simp))) (⟨rfl, fun j v hj => by simp at hj⟩) (by first | omega | (simp; omega))) ?_
   rintro _ w15 ⟨rfl, T11⟩
   have S15 : Sep w [box b2 [iv 0, iv 0, iv 0, iv 0, iv 0, iv 0, iv 0, iv 0, iv 0, iv 0, iv 0, iv 0, iv 0, iv 0, iv 0, iv 0, .slice ra1 ((newX p).length) rc1] 33, rowOf encI ra1 rc1 3 1 (newX p), box b1 (prgC p) 28] w15 := S14.trans T11
   clear T11 S14
   refine J.run 2 K3_13 [(29, .bool (sameR [0, 0, 0, 0, 0, 0, 0, 0, 0, 0, 0, 0, 0, 0, 0, 0] [0, 0, 0, 0, 0, 0, 0, 0, 0, 0, 0, 0, 0, 0, 0, 0] (newX p) ([]))), (1, pv b1)] w15 (by kernel_rfl) ?_
   have fk8 : (sameR [0, 0, 0, 0, 0, 0, 0, 0, 0, 0, 0, 0, 0, 0, 0, 0] [0, 0, 0, 0, 0, 0, 0, 0, 0, 0, 0, 0, 0, 0, 0, 0] (newX p) ([])) = true := by rw [(newX_no fk2).1]; exact sameR_refl _ _
   refine J.head (.bool true) (congrArg Value.bool fk8) ?_
   refine J.ok (OK.ldBox S15 2 30 28 0 (.agg (prgA p)) (by kernel_rfl) rfl (by kernel_rfl)) ?_
   refine J.callF 31 10 #[.agg (prgA p)] hb10 (by kernel_rfl) (cost_any p _ (prgQ_sep hp S15)) ?_
   rintro _ w16 ⟨rfl, T12⟩
   have S16 : Sep w [box b2 [iv 0, iv 0, iv 0, iv 0, iv 0, iv 0, iv 0, iv 0, iv 0, iv 0, iv 0, iv 0, iv 0, iv 0, iv 0, iv 0, .slice ra1 ((newX p).length) rc1] 33, rowOf encI ra1 rc1 3 1 (newX p), box b1 (prgC p) 28] w16 := S15.trans T12
   clear T12 S15
   refine J.run 4 K3_14 [(2, .bool ((costX p) == 0))] w16 (by kernel_rfl) ?_
   refine J.ret Tryz.f3 [.bool ((costX p) == 0)] Tryz.func3 ⟨by kernel_rfl, trivial⟩ ?_
   refine hR _ _ ?_
   have fk9 : (costX p) = 0 := by unfold costX; rw [fk2]; rfl
   exact ⟨congrArg Value.bool (beq_iff_eq.2 fk9), S16.nil⟩

end Go.Proofs.YthfpejhonhaggaaGreatDoor

