/- Walks of functions of this seat, printed by a program over the engine. Conditions: as each theorem says. -/
import Derived.Test.YthfpejhonhaggaaDoorW10
namespace Go.Proofs.YthfpejhonhaggaaDoor
open Go.Eng Go.RowKit
set_option linter.unusedSimpArgs false
set_option linter.unusedVariables false
theorem textI_size (i : Ins) : (textI i).size ≤ 95 := by
  cases h : formB i with
  | true => exact (textI_yes h).2
  | false => rw [textI_no h]; decide
theorem form_q {i : Ins} (h : formB i = true) (w : World) : insQ w i := by
  have hp := formB_iff.1 h
  exact ⟨by omega, by omega, by omega, by omega, by omega, trivial⟩
theorem parI_q (s : ByteArray) (w : World) : insQ w (parI s) := by
  have h0 : insQ w ins0 := ⟨by decide, by decide, by decide, by decide, by decide, trivial⟩
  unfold parI
  split
  · exact h0
  · split
    · rename_i j hj; exact form_q (filter_some hj).2 w
    · exact h0
theorem dec_flag (l : List Int) : (decB l == (decE l == 0)) = true := by
  unfold decE; cases decB l <;> rfl
theorem dec_three {l : List Int} (h : decB l = false) : decE l = 3 := by unfold decE; rw [h]; rfl
theorem enc_same {i : Ins} (h : formB i = true) : ((bytesB (encX i)).toList == (bytesB (encL i)).toList) = true := by rw [(encX_yes h).1]; exact beq_self_eq_true _

theorem hb10 : HasBody Tryd.prog 10 := fun _ _ => by kernel_rfl
noncomputable def K10_0 : List Item := adv 7 [] (bodyOf Tryd.f10)
noncomputable def K10_1 : List Item := adv 1 [] (popK K10_0)
noncomputable def K10_2 : List Item := adv 3 [] (popK K10_1)
set_option maxRecDepth 20000 in
set_option maxHeartbeats 20000000 in
theorem bequal_any (la : Option Addr) (na ca : Nat) (xa : List Int) (lb : Option Addr) (nb cb : Nat) (xb : List Int) (w : World) (ha : Ones (Value.int .u8) w la na xa) (hb : Ones (Value.int .u8) w lb nb xb) (hpa : ∀ p, la = some p → p = ⟨p.block, p.off, none⟩) (hpb : ∀ p, lb = some p → p = ⟨p.block, p.off, none⟩) : Ret Tryd.prog 10 #[.slice la na ca, .slice lb nb cb] w (fun v w' => v = .bool ((bytesB xa).toList == (bytesB xb).toList) ∧ Sep w [] w') := by
 have S0 := Sep.refl w
 refine Ret.named fun R hR => ?_
 refine Ret.of_J (N := 10) [(0, .slice la na ca), (1, .slice lb nb cb)] Tryd.func10 rfl rfl (Nat.le_of_ble_eq_true (by kernel_rfl)) (by kernel_rfl) ?_
 refine J.run 7 K10_0 [(5, .slice la na ca), (1, .slice lb nb cb)] w (by kernel_rfl) ?_
 refine J.ok (OK.bytes 6 24 9 la na ca xa (by kernel_rfl) (by kernel_rfl) (ha.sep S0) hpa) ?_
 refine J.run 1 K10_1 [(7, .slice lb nb cb), (6, .string (bytesB xa))] w (by kernel_rfl) ?_
 refine J.ok (OK.bytes 8 24 9 lb nb cb xb (by kernel_rfl) (by kernel_rfl) (hb.sep S0) hpb) ?_
 refine J.run 3 K10_2 [(4, .bool ((bytesB xa).toList == (bytesB xb).toList))] w (by kernel_rfl) ?_
 refine J.ret Tryd.f10 [.bool ((bytesB xa).toList == (bytesB xb).toList)] Tryd.func10 ⟨by kernel_rfl, trivial⟩ ?_
 refine hR _ _ ?_
 exact ⟨rfl, S0.nil⟩

theorem hb4 : HasBody Tryd.prog 4 := fun _ _ => by kernel_rfl
noncomputable def K4_0 : List Item := adv 7 [] (bodyOf Tryd.f4)
noncomputable def K4_1 : List Item := adv 8 [] (popK K4_0)
noncomputable def K4_2 : List Item := adv 3 [] (popK K4_1)
noncomputable def K4_3 : List Item := adv 7 [] (popK (popK K4_2))
noncomputable def K4_4 : List Item := adv 1 [] K4_3
noncomputable def K4_5 : List Item := adv 2 [] (popK (popK K4_4))
noncomputable def K4_6 : List Item := adv 4 [] K4_5
noncomputable def K4_7 : List Item := adv 1 [] (popK K4_6)
noncomputable def K4_8 : List Item := adv 2 [] (popK K4_7)
noncomputable def K4_9 : List Item := adv 4 [] (popK (popK K4_8))
set_option maxRecDepth 20000 in
set_option maxHeartbeats 20000000 in
theorem awake_any  (w : World) (hW : TabW w) : Ret Tryd.prog 4 #[] w (fun v w' => v = .bool true ∧ Sep w [] w') := by
 have S0 := Sep.refl w
 refine Ret.named fun R hR => ?_
 refine Ret.of_J (N := 35) [] Tryd.func4 rfl rfl (Nat.le_of_ble_eq_true (by kernel_rfl)) (by kernel_rfl) ?_
 have hpi := parI_q (⟨#[109, 117, 108, 32, 114, 50, 32, 114, 48, 32, 114, 49, 32, 49, 55]⟩ : ByteArray) w
 have hxs : (⟨#[109, 117, 108, 32, 114, 50, 32, 114, 48, 32, 114, 49, 32, 49, 55]⟩ : ByteArray).size = 15 := rfl
 refine J.run 7 K4_0 [(6, .agg #[.int .i64 1, .int .i64 0, .int .i64 0, .int .i64 0, .int .i64 (-5)])] w (by kernel_rfl) ?_
 refine J.callF 7 5 #[.agg #[.int .i64 1, .int .i64 0, .int .i64 0, .int .i64 0, .int .i64 (-5)]] hb5 (by kernel_rfl) (encode_any (⟨1, 0, 0, 0, -5⟩ : Ins) _ (show insQ _ (⟨1, 0, 0, 0, -5⟩ : Ins) from ⟨(show (-9223372036854775808) ≤ (1 : Int) ∧ (1 : Int) ≤ 9223372036854775807 from by omega), (show (-9223372036854775808) ≤ (0 : Int) ∧ (0 : Int) ≤ 9223372036854775807 from by omega), (show (-9223372036854775808) ≤ (0 : Int) ∧ (0 : Int) ≤ 9223372036854775807 from by omega), (show (-9223372036854775808) ≤ (0 : Int) ∧ (0 : Int) ≤ 9223372036854775807 from by omega), (show (-9223372036854775808) ≤ (-5 : Int) ∧ (-5 : Int) ≤ 9223372036854775807 from by omega), trivial⟩)) ?_
 rintro _ w1 ⟨ra1, rc1, rfl, T1⟩
 have S1 : Sep w [rowOf (enc1 (Value.int .u8)) ra1 rc1 5 1 (encX (⟨1, 0, 0, 0, -5⟩ : Ins))] w1 := S0.trans T1
 clear T1
 have := encX_len (⟨1, 0, 0, 0, -5⟩ : Ins)
 refine J.run 8 K4_1 [(2, .int .i64 (encE (⟨1, 0, 0, 0, -5⟩ : Ins))), (1, .slice ra1 ((encX (⟨1, 0, 0, 0, -5⟩ : Ins)).length) rc1)] w1 (by kernel_rfl) ?_
 refine J.callF 11 9 #[.string ⟨#[109, 117, 108, 32, 114, 50, 32, 114, 48, 32, 114, 49, 32, 49, 55]⟩] hb9 (by kernel_rfl) (mparse_any (⟨#[109, 117, 108, 32, 114, 50, 32, 114, 48, 32, 114, 49, 32, 49, 55]⟩ : ByteArray) _ (by omega) (tabW_sep hW S1)) ?_
 rintro _ w2 ⟨rfl, T2⟩
 have S2 : Sep w [rowOf (enc1 (Value.int .u8)) ra1 rc1 5 1 (encX (⟨1, 0, 0, 0, -5⟩ : Ins))] w2 := S1.trans T2
 clear T2 S1
 refine J.run 3 K4_2 [(13, .int .i64 (parIE (⟨#[109, 117, 108, 32, 114, 50, 32, 114, 48, 32, 114, 49, 32, 49, 55]⟩ : ByteArray))), (12, .agg #[.int .i64 ((parI (⟨#[109, 117, 108, 32, 114, 50, 32, 114, 48, 32, 114, 49, 32, 49, 55]⟩ : ByteArray)).gOp), .int .i64 ((parI (⟨#[109, 117, 108, 32, 114, 50, 32, 114, 48, 32, 114, 49, 32, 49, 55]⟩ : ByteArray)).gA), .int .i64 ((parI (⟨#[109, 117, 108, 32, 114, 50, 32, 114, 48, 32, 114, 49, 32, 49, 55]⟩ : ByteArray)).gB), .int .i64 ((parI (⟨#[109, 117, 108, 32, 114, 50, 32, 114, 48, 32, 114, 49, 32, 49, 55]⟩ : ByteArray)).gC), .int .i64 ((parI (⟨#[109, 117, 108, 32, 114, 50, 32, 114, 48, 32, 114, 49, 32, 49, 55]⟩ : ByteArray)).gK)]), (2, .int .i64 (encE (⟨1, 0, 0, 0, -5⟩ : Ins))), (1, .slice ra1 ((encX (⟨1, 0, 0, 0, -5⟩ : Ins)).length) rc1)] w2 (by kernel_rfl) ?_
 refine J.new S2 3 [.int .i64 0, .int .i64 0, .int .i64 0, .int .i64 0, .int .i64 0] 23 (by kernel_rfl) ?_
 intro b1 w3 S3
 refine J.stBox S3 0 23 0 (.agg #[.int .i64 ((parI (⟨#[109, 117, 108, 32, 114, 50, 32, 114, 48, 32, 114, 49, 32, 49, 55]⟩ : ByteArray)).gOp), .int .i64 ((parI (⟨#[109, 117, 108, 32, 114, 50, 32, 114, 48, 32, 114, 49, 32, 49, 55]⟩ : ByteArray)).gA), .int .i64 ((parI (⟨#[109, 117, 108, 32, 114, 50, 32, 114, 48, 32, 114, 49, 32, 49, 55]⟩ : ByteArray)).gB), .int .i64 ((parI (⟨#[109, 117, 108, 32, 114, 50, 32, 114, 48, 32, 114, 49, 32, 49, 55]⟩ : ByteArray)).gC), .int .i64 ((parI (⟨#[109, 117, 108, 32, 114, 50, 32, 114, 48, 32, 114, 49, 32, 49, 55]⟩ : ByteArray)).gK)]) [.int .i64 ((parI (⟨#[109, 117, 108, 32, 114, 50, 32, 114, 48, 32, 114, 49, 32, 49, 55]⟩ : ByteArray)).gOp), .int .i64 ((parI (⟨#[109, 117, 108, 32, 114, 50, 32, 114, 48, 32, 114, 49, 32, 49, 55]⟩ : ByteArray)).gA), .int .i64 ((parI (⟨#[109, 117, 108, 32, 114, 50, 32, 114, 48, 32, 114, 49, 32, 49, 55]⟩ : ByteArray)).gB), .int .i64 ((parI (⟨#[109, 117, 108, 32, 114, 50, 32, 114, 48, 32, 114, 49, 32, 49, 55]⟩ : ByteArray)).gC), .int .i64 ((parI (⟨#[109, 117, 108, 32, 114, 50, 32, 114, 48, 32, 114, 49, 32, 49, 55]⟩ : ByteArray)).gK)] [box b1 [.int .i64 ((parI (⟨#[109, 117, 108, 32, 114, 50, 32, 114, 48, 32, 114, 49, 32, 49, 55]⟩ : ByteArray)).gOp), .int .i64 ((parI (⟨#[109, 117, 108, 32, 114, 50, 32, 114, 48, 32, 114, 49, 32, 49, 55]⟩ : ByteArray)).gA), .int .i64 ((parI (⟨#[109, 117, 108, 32, 114, 50, 32, 114, 48, 32, 114, 49, 32, 49, 55]⟩ : ByteArray)).gB), .int .i64 ((parI (⟨#[109, 117, 108, 32, 114, 50, 32, 114, 48, 32, 114, 49, 32, 49, 55]⟩ : ByteArray)).gC), .int .i64 ((parI (⟨#[109, 117, 108, 32, 114, 50, 32, 114, 48, 32, 114, 49, 32, 49, 55]⟩ : ByteArray)).gK)] 23, rowOf (enc1 (Value.int .u8)) ra1 rc1 5 1 (encX (⟨1, 0, 0, 0, -5⟩ : Ins))] (by kernel_rfl) rfl (by kernel_rfl) (by kernel_rfl) rfl ?_
 intro w4 S4
 refine J.run 7 K4_3 [(16, .bool ((encE (⟨1, 0, 0, 0, -5⟩ : Ins)) == 0)), (4, .int .i64 (parIE (⟨#[109, 117, 108, 32, 114, 50, 32, 114, 48, 32, 114, 49, 32, 49, 55]⟩ : ByteArray))), (3, .pointer (some ⟨b1, 0, none⟩)), (1, .slice ra1 ((encX (⟨1, 0, 0, 0, -5⟩ : Ins)).length) rc1)] w4 (by kernel_rfl) ?_
 have fk2 : (encE (⟨1, 0, 0, 0, -5⟩ : Ins)) = 0 := (by kernel_rfl)
 refine J.head (.bool true) (congrArg Value.bool (beq_iff_eq.2 fk2)) ?_
 refine J.run 1 K4_4 [(17, .slice ra1 ((encX (⟨1, 0, 0, 0, -5⟩ : Ins)).length) rc1), (16, .bool true), (4, .int .i64 (parIE (⟨#[109, 117, 108, 32, 114, 50, 32, 114, 48, 32, 114, 49, 32, 49, 55]⟩ : ByteArray))), (3, .pointer (some ⟨b1, 0, none⟩))] w4 (by kernel_rfl) ?_
 refine J.newSlice S4 18 12 [.int .u8 1, .int .u8 0, .int .u8 0, .int .u8 0, .int .u8 255, .int .u8 255, .int .u8 255, .int .u8 255, .int .u8 255, .int .u8 255, .int .u8 255, .int .u8 251] 5 (by kernel_rfl) ?_
 intro b2 w5 S5
 have := rowOf_len (S5.nth 2 rfl)
 have := rowOf_len (S5.nth 2 rfl)
 refine J.callF 19 10 #[.slice ra1 ((encX (⟨1, 0, 0, 0, -5⟩ : Ins)).length) rc1, .slice (some ⟨b2, 0, none⟩) 12 12] hb10 (by kernel_rfl) (bequal_any ra1 ((encX (⟨1, 0, 0, 0, -5⟩ : Ins)).length) rc1 (encX (⟨1, 0, 0, 0, -5⟩ : Ins)) (some ⟨b2, 0, none⟩) 12 12 ([1, 0, 0, 0, 255, 255, 255, 255, 255, 255, 255, 251]) _ ((row1_ones (S5.nth 2 rfl) ((encX (⟨1, 0, 0, 0, -5⟩ : Ins)).length) (by first | rfl | omega | simp))) ((show Ones (Value.int .u8) w5 (some ⟨b2, 0, none⟩) 12 [1, 0, 0, 0, 255, 255, 255, 255, 255, 255, 255, 251] from ⟨rfl, box_cells (S5.nth 0 rfl)⟩)) (fun p hp => by rw [rowOf_plain (S5.nth 2 rfl) p hp]) (fun p hp => by cases hp; rfl)) ?_
 rintro _ w6 ⟨rfl, T3⟩
 have S6 : Sep w [box b2 [.int .u8 1, .int .u8 0, .int .u8 0, .int .u8 0, .int .u8 255, .int .u8 255, .int .u8 255, .int .u8 255, .int .u8 255, .int .u8 255, .int .u8 255, .int .u8 251] 5, box b1 [.int .i64 ((parI (⟨#[109, 117, 108, 32, 114, 50, 32, 114, 48, 32, 114, 49, 32, 49, 55]⟩ : ByteArray)).gOp), .int .i64 ((parI (⟨#[109, 117, 108, 32, 114, 50, 32, 114, 48, 32, 114, 49, 32, 49, 55]⟩ : ByteArray)).gA), .int .i64 ((parI (⟨#[109, 117, 108, 32, 114, 50, 32, 114, 48, 32, 114, 49, 32, 49, 55]⟩ : ByteArray)).gB), .int .i64 ((parI (⟨#[109, 117, 108, 32, 114, 50, 32, 114, 48, 32, 114, 49, 32, 49, 55]⟩ : ByteArray)).gC), .int .i64 ((parI (⟨#[109, 117, 108, 32, 114, 50, 32, 114, 48, 32, 114, 49, 32, 49, 55]⟩ : ByteArray)).gK)] 23, rowOf (enc1 (Value.int .u8)) ra1 rc1 5 1 (encX (⟨1, 0, 0, 0, -5⟩ : Ins))] w6 := S5.trans T3
 clear T3 S5
 refine J.run 2 K4_5 [(21, .bool ((bytesB (encX (⟨1, 0, 0, 0, -5⟩ : Ins))).toList == (bytesB ([1, 0, 0, 0, 255, 255, 255, 255, 255, 255, 255, 251])).toList)), (4, .int .i64 (parIE (⟨#[109, 117, 108, 32, 114, 50, 32, 114, 48, 32, 114, 49, 32, 49, 55]⟩ : ByteArray))), (3, .pointer (some ⟨b1, 0, none⟩))] w6 (by kernel_rfl) ?_
 have fk4 : ((bytesB (encX (⟨1, 0, 0, 0, -5⟩ : Ins))).toList == (bytesB ([1, 0, 0, 0, 255, 255, 255, 255, 255, 255, 255, 251])).toList) = true := (by kernel_rfl)
 refine J.head (.bool true) (congrArg Value.bool fk4) ?_
 refine J.run 4 K4_6 [(25, .bool ((parIE (⟨#[109, 117, 108, 32, 114, 50, 32, 114, 48, 32, 114, 49, 32, 49, 55]⟩ : ByteArray)) == 0)), (3, .pointer (some ⟨b1, 0, none⟩))] w6 (by kernel_rfl) ?_
 have fk6 : (parIE (⟨#[109, 117, 108, 32, 114, 50, 32, 114, 48, 32, 114, 49, 32, 49, 55]⟩ : ByteArray)) = 0 := (by kernel_rfl)
 refine J.head (.bool true) (congrArg Value.bool (beq_iff_eq.2 fk6)) ?_
 refine J.ok (OK.ldBox S6 1 26 23 0 (.agg #[.int .i64 ((parI (⟨#[109, 117, 108, 32, 114, 50, 32, 114, 48, 32, 114, 49, 32, 49, 55]⟩ : ByteArray)).gOp), .int .i64 ((parI (⟨#[109, 117, 108, 32, 114, 50, 32, 114, 48, 32, 114, 49, 32, 49, 55]⟩ : ByteArray)).gA), .int .i64 ((parI (⟨#[109, 117, 108, 32, 114, 50, 32, 114, 48, 32, 114, 49, 32, 49, 55]⟩ : ByteArray)).gB), .int .i64 ((parI (⟨#[109, 117, 108, 32, 114, 50, 32, 114, 48, 32, 114, 49, 32, 49, 55]⟩ : ByteArray)).gC), .int .i64 ((parI (⟨#[109, 117, 108, 32, 114, 50, 32, 114, 48, 32, 114, 49, 32, 49, 55]⟩ : ByteArray)).gK)]) (by kernel_rfl) rfl (by kernel_rfl)) ?_
 refine J.run 1 K4_7 [(27, .agg #[.int .i64 7, .int .i64 2, .int .i64 0, .int .i64 1, .int .i64 17]), (26, .agg #[.int .i64 ((parI (⟨#[109, 117, 108, 32, 114, 50, 32, 114, 48, 32, 114, 49, 32, 49, 55]⟩ : ByteArray)).gOp), .int .i64 ((parI (⟨#[109, 117, 108, 32, 114, 50, 32, 114, 48, 32, 114, 49, 32, 49, 55]⟩ : ByteArray)).gA), .int .i64 ((parI (⟨#[109, 117, 108, 32, 114, 50, 32, 114, 48, 32, 114, 49, 32, 49, 55]⟩ : ByteArray)).gB), .int .i64 ((parI (⟨#[109, 117, 108, 32, 114, 50, 32, 114, 48, 32, 114, 49, 32, 49, 55]⟩ : ByteArray)).gC), .int .i64 ((parI (⟨#[109, 117, 108, 32, 114, 50, 32, 114, 48, 32, 114, 49, 32, 49, 55]⟩ : ByteArray)).gK)]), (25, .bool true), (3, .pointer (some ⟨b1, 0, none⟩))] w6 (by kernel_rfl) ?_
 refine J.ok (OK.eqS 28 true 23 #[.int .i64 ((parI (⟨#[109, 117, 108, 32, 114, 50, 32, 114, 48, 32, 114, 49, 32, 49, 55]⟩ : ByteArray)).gOp), .int .i64 ((parI (⟨#[109, 117, 108, 32, 114, 50, 32, 114, 48, 32, 114, 49, 32, 49, 55]⟩ : ByteArray)).gA), .int .i64 ((parI (⟨#[109, 117, 108, 32, 114, 50, 32, 114, 48, 32, 114, 49, 32, 49, 55]⟩ : ByteArray)).gB), .int .i64 ((parI (⟨#[109, 117, 108, 32, 114, 50, 32, 114, 48, 32, 114, 49, 32, 49, 55]⟩ : ByteArray)).gC), .int .i64 ((parI (⟨#[109, 117, 108, 32, 114, 50, 32, 114, 48, 32, 114, 49, 32, 49, 55]⟩ : ByteArray)).gK)] #[.int .i64 7, .int .i64 2, .int .i64 0, .int .i64 1, .int .i64 17] ((((parI (⟨#[109, 117, 108, 32, 114, 50, 32, 114, 48, 32, 114, 49, 32, 49, 55]⟩ : ByteArray)).gOp) == 7) && ((((parI (⟨#[109, 117, 108, 32, 114, 50, 32, 114, 48, 32, 114, 49, 32, 49, 55]⟩ : ByteArray)).gA) == 2) && ((((parI (⟨#[109, 117, 108, 32, 114, 50, 32, 114, 48, 32, 114, 49, 32, 49, 55]⟩ : ByteArray)).gB) == 0) && ((((parI (⟨#[109, 117, 108, 32, 114, 50, 32, 114, 48, 32, 114, 49, 32, 49, 55]⟩ : ByteArray)).gC) == 1) && ((((parI (⟨#[109, 117, 108, 32, 114, 50, 32, 114, 48, 32, 114, 49, 32, 49, 55]⟩ : ByteArray)).gK) == 17) && true))))) (by kernel_rfl) (by kernel_rfl) (by kernel_rfl) ((((parI (⟨#[109, 117, 108, 32, 114, 50, 32, 114, 48, 32, 114, 49, 32, 49, 55]⟩ : ByteArray)).gOp) == 7) && ((((parI (⟨#[109, 117, 108, 32, 114, 50, 32, 114, 48, 32, 114, 49, 32, 49, 55]⟩ : ByteArray)).gA) == 2) && ((((parI (⟨#[109, 117, 108, 32, 114, 50, 32, 114, 48, 32, 114, 49, 32, 49, 55]⟩ : ByteArray)).gB) == 0) && ((((parI (⟨#[109, 117, 108, 32, 114, 50, 32, 114, 48, 32, 114, 49, 32, 49, 55]⟩ : ByteArray)).gC) == 1) && (((parI (⟨#[109, 117, 108, 32, 114, 50, 32, 114, 48, 32, 114, 49, 32, 49, 55]⟩ : ByteArray)).gK) == 17))))) (by simp)) ?_
 refine J.run 2 K4_8 [(30, .bool ((((parI (⟨#[109, 117, 108, 32, 114, 50, 32, 114, 48, 32, 114, 49, 32, 49, 55]⟩ : ByteArray)).gOp) == 7) && ((((parI (⟨#[109, 117, 108, 32, 114, 50, 32, 114, 48, 32, 114, 49, 32, 49, 55]⟩ : ByteArray)).gA) == 2) && ((((parI (⟨#[109, 117, 108, 32, 114, 50, 32, 114, 48, 32, 114, 49, 32, 49, 55]⟩ : ByteArray)).gB) == 0) && ((((parI (⟨#[109, 117, 108, 32, 114, 50, 32, 114, 48, 32, 114, 49, 32, 49, 55]⟩ : ByteArray)).gC) == 1) && (((parI (⟨#[109, 117, 108, 32, 114, 50, 32, 114, 48, 32, 114, 49, 32, 49, 55]⟩ : ByteArray)).gK) == 17)))))), (3, .pointer (some ⟨b1, 0, none⟩))] w6 (by kernel_rfl) ?_
 have fk8 : ((((parI (⟨#[109, 117, 108, 32, 114, 50, 32, 114, 48, 32, 114, 49, 32, 49, 55]⟩ : ByteArray)).gOp) == 7) && ((((parI (⟨#[109, 117, 108, 32, 114, 50, 32, 114, 48, 32, 114, 49, 32, 49, 55]⟩ : ByteArray)).gA) == 2) && ((((parI (⟨#[109, 117, 108, 32, 114, 50, 32, 114, 48, 32, 114, 49, 32, 49, 55]⟩ : ByteArray)).gB) == 0) && ((((parI (⟨#[109, 117, 108, 32, 114, 50, 32, 114, 48, 32, 114, 49, 32, 49, 55]⟩ : ByteArray)).gC) == 1) && (((parI (⟨#[109, 117, 108, 32, 114, 50, 32, 114, 48, 32, 114, 49, 32, 49, 55]⟩ : ByteArray)).gK) == 17))))) = true := (by kernel_rfl)
 refine J.head (.bool true) (congrArg Value.bool fk8) ?_
 refine J.ok (OK.ldBox S6 1 31 23 0 (.agg #[.int .i64 ((parI (⟨#[109, 117, 108, 32, 114, 50, 32, 114, 48, 32, 114, 49, 32, 49, 55]⟩ : ByteArray)).gOp), .int .i64 ((parI (⟨#[109, 117, 108, 32, 114, 50, 32, 114, 48, 32, 114, 49, 32, 49, 55]⟩ : ByteArray)).gA), .int .i64 ((parI (⟨#[109, 117, 108, 32, 114, 50, 32, 114, 48, 32, 114, 49, 32, 49, 55]⟩ : ByteArray)).gB), .int .i64 ((parI (⟨#[109, 117, 108, 32, 114, 50, 32, 114, 48, 32, 114, 49, 32, 49, 55]⟩ : ByteArray)).gC), .int .i64 ((parI (⟨#[109, 117, 108, 32, 114, 50, 32, 114, 48, 32, 114, 49, 32, 49, 55]⟩ : ByteArray)).gK)]) (by kernel_rfl) rfl (by kernel_rfl)) ?_
 refine J.callF 32 6 #[.agg #[.int .i64 ((parI (⟨#[109, 117, 108, 32, 114, 50, 32, 114, 48, 32, 114, 49, 32, 49, 55]⟩ : ByteArray)).gOp), .int .i64 ((parI (⟨#[109, 117, 108, 32, 114, 50, 32, 114, 48, 32, 114, 49, 32, 49, 55]⟩ : ByteArray)).gA), .int .i64 ((parI (⟨#[109, 117, 108, 32, 114, 50, 32, 114, 48, 32, 114, 49, 32, 49, 55]⟩ : ByteArray)).gB), .int .i64 ((parI (⟨#[109, 117, 108, 32, 114, 50, 32, 114, 48, 32, 114, 49, 32, 49, 55]⟩ : ByteArray)).gC), .int .i64 ((parI (⟨#[109, 117, 108, 32, 114, 50, 32, 114, 48, 32, 114, 49, 32, 49, 55]⟩ : ByteArray)).gK)]] hb6 (by kernel_rfl) (mtext_any (parI (⟨#[109, 117, 108, 32, 114, 50, 32, 114, 48, 32, 114, 49, 32, 49, 55]⟩ : ByteArray)) _ (insQ_sep hpi S6) (tabW_sep hW S6)) ?_
 rintro _ w7 ⟨rfl, T4⟩
 have S7 : Sep w [box b2 [.int .u8 1, .int .u8 0, .int .u8 0, .int .u8 0, .int .u8 255, .int .u8 255, .int .u8 255, .int .u8 255, .int .u8 255, .int .u8 255, .int .u8 255, .int .u8 251] 5, box b1 [.int .i64 ((parI (⟨#[109, 117, 108, 32, 114, 50, 32, 114, 48, 32, 114, 49, 32, 49, 55]⟩ : ByteArray)).gOp), .int .i64 ((parI (⟨#[109, 117, 108, 32, 114, 50, 32, 114, 48, 32, 114, 49, 32, 49, 55]⟩ : ByteArray)).gA), .int .i64 ((parI (⟨#[109, 117, 108, 32, 114, 50, 32, 114, 48, 32, 114, 49, 32, 49, 55]⟩ : ByteArray)).gB), .int .i64 ((parI (⟨#[109, 117, 108, 32, 114, 50, 32, 114, 48, 32, 114, 49, 32, 49, 55]⟩ : ByteArray)).gC), .int .i64 ((parI (⟨#[109, 117, 108, 32, 114, 50, 32, 114, 48, 32, 114, 49, 32, 49, 55]⟩ : ByteArray)).gK)] 23, rowOf (enc1 (Value.int .u8)) ra1 rc1 5 1 (encX (⟨1, 0, 0, 0, -5⟩ : Ins))] w7 := S6.trans T4
 clear T4 S6
 refine J.run 4 K4_9 [(0, .bool ((textI (parI (⟨#[109, 117, 108, 32, 114, 50, 32, 114, 48, 32, 114, 49, 32, 49, 55]⟩ : ByteArray))).toList == (⟨#[109, 117, 108, 32, 114, 50, 32, 114, 48, 32, 114, 49, 32, 49, 55]⟩ : ByteArray).toList))] w7 (by kernel_rfl) ?_
 refine J.ret Tryd.f4 [.bool ((textI (parI (⟨#[109, 117, 108, 32, 114, 50, 32, 114, 48, 32, 114, 49, 32, 49, 55]⟩ : ByteArray))).toList == (⟨#[109, 117, 108, 32, 114, 50, 32, 114, 48, 32, 114, 49, 32, 49, 55]⟩ : ByteArray).toList)] Tryd.func4 ⟨by kernel_rfl, trivial⟩ ?_
 refine hR _ _ ?_
 exact ⟨congrArg Value.bool (by kernel_rfl), S7.nil⟩

theorem hb3 : HasBody Tryd.prog 3 := fun _ _ => by kernel_rfl
noncomputable def K3_0 : List Item := adv 2 [] (bodyOf Tryd.f3)
noncomputable def K3_1 : List Item := adv 5 [] (popK K3_0)
noncomputable def K3_2 : List Item := adv 11 [false] (popK K3_1)
noncomputable def K3_3 : List Item := adv 10 [true] K3_2
noncomputable def K3_4 : List Item := adv 5 [] K3_2
noncomputable def K3_5 : List Item := adv 5 [true] K3_4
noncomputable def K3_6 : List Item := adv 4 [false] K3_4
noncomputable def K3_7 : List Item := adv 8 [] (popK (popK K3_6))
noncomputable def K3_8 : List Item := adv 5 [] (popK (popK K3_7))
noncomputable def K3_9 : List Item := adv 2 [] (popK (popK K3_8))
noncomputable def K3_10 : List Item := adv 4 [false] K3_9
noncomputable def K3_11 : List Item := adv 3 [] (popK K3_10)
noncomputable def K3_12 : List Item := adv 5 [] (popK (popK K3_11))
noncomputable def K3_13 : List Item := adv 3 [] (popK K3_12)
noncomputable def K3_14 : List Item := adv 7 [] (popK (popK K3_13))
noncomputable def K3_15 : List Item := adv 1 [] K3_14
noncomputable def K3_16 : List Item := adv 3 [] (popK (popK (popK K3_15)))
noncomputable def K3_17 : List Item := adv 1 [] K3_16
noncomputable def K3_18 : List Item := adv 1 [] (popK (popK K3_17))
noncomputable def K3_19 : List Item := adv 6 [] K3_18
noncomputable def K3_20 : List Item := adv 2 [] (popK (popK (popK K3_19)))
noncomputable def K3_21 : List Item := adv 4 [] K3_20
noncomputable def K3_22 : List Item := adv 2 [] (popK (popK (popK K3_21)))
noncomputable def K3_23 : List Item := adv 5 [false] K3_22
noncomputable def K3_24 : List Item := adv 3 [] (popK K3_23)
noncomputable def K3_25 : List Item := adv 5 [] (popK (popK K3_24))
noncomputable def K3_26 : List Item := adv 3 [] (popK K3_25)
noncomputable def K3_27 : List Item := adv 5 [] (popK (popK K3_26))
noncomputable def K3_28 : List Item := adv 7 [] (popK (popK (popK K3_27)))
noncomputable def K3_29 : List Item := adv 3 [] K3_28
noncomputable def K3_30 : List Item := adv 10 [false] K3_29
noncomputable def K3_31 : List Item := adv 3 [] (popK K3_30)
noncomputable def K3_32 : List Item := adv 5 [] (popK (popK K3_31))
noncomputable def K3_33 : List Item := adv 3 [] (popK K3_32)
noncomputable def K3_34 : List Item := adv 4 [] (popK (popK K3_33))
noncomputable def K3_35 : List Item := adv 4 [] (popK (popK (popK K3_34)))
noncomputable def K3_36 : List Item := adv 5 [] K3_35
noncomputable def K3_37 : List Item := adv 6 [] (popK (popK K3_36))
noncomputable def K3_38 : List Item := adv 8 [] K3_36
noncomputable def K3_39 : List Item := adv 5 [] K3_29
noncomputable def K3_40 : List Item := adv 5 [false] K3_39
noncomputable def K3_41 : List Item := adv 3 [] (popK K3_40)
noncomputable def K3_42 : List Item := adv 5 [] (popK (popK K3_41))
noncomputable def K3_43 : List Item := adv 3 [] (popK K3_42)
noncomputable def K3_44 : List Item := adv 4 [] (popK (popK K3_43))
noncomputable def K3_45 : List Item := adv 4 [] (popK (popK (popK K3_44)))
noncomputable def K3_46 : List Item := adv 5 [] K3_45
noncomputable def K3_47 : List Item := adv 6 [] (popK (popK K3_46))
noncomputable def K3_48 : List Item := adv 8 [] K3_46
noncomputable def K3_49 : List Item := adv 6 [true] K3_9
noncomputable def K3_50 : List Item := adv 5 [] K3_49
noncomputable def K3_51 : List Item := adv 2 [] K3_50
noncomputable def K3_52 : List Item := adv 2 [] K3_51
noncomputable def K3_53 : List Item := adv 5 [false] K3_52
noncomputable def K3_54 : List Item := adv 3 [] (popK K3_53)
noncomputable def K3_55 : List Item := adv 5 [] (popK (popK K3_54))
noncomputable def K3_56 : List Item := adv 3 [] (popK K3_55)
noncomputable def K3_57 : List Item := adv 5 [] (popK (popK K3_56))
noncomputable def K3_58 : List Item := adv 7 [] (popK (popK (popK K3_57)))
noncomputable def K3_59 : List Item := adv 3 [] K3_58
noncomputable def K3_60 : List Item := adv 10 [false] K3_59
noncomputable def K3_61 : List Item := adv 3 [] (popK K3_60)
noncomputable def K3_62 : List Item := adv 5 [] (popK (popK K3_61))
noncomputable def K3_63 : List Item := adv 3 [] (popK K3_62)
noncomputable def K3_64 : List Item := adv 4 [] (popK (popK K3_63))
noncomputable def K3_65 : List Item := adv 4 [] (popK (popK (popK K3_64)))
noncomputable def K3_66 : List Item := adv 5 [] K3_65
noncomputable def K3_67 : List Item := adv 6 [] (popK (popK K3_66))
noncomputable def K3_68 : List Item := adv 8 [] K3_66
noncomputable def K3_69 : List Item := adv 5 [] K3_59
noncomputable def K3_70 : List Item := adv 5 [false] K3_69
noncomputable def K3_71 : List Item := adv 3 [] (popK K3_70)
noncomputable def K3_72 : List Item := adv 5 [] (popK (popK K3_71))
noncomputable def K3_73 : List Item := adv 3 [] (popK K3_72)
noncomputable def K3_74 : List Item := adv 4 [] (popK (popK K3_73))
noncomputable def K3_75 : List Item := adv 4 [] (popK (popK (popK K3_74)))
noncomputable def K3_76 : List Item := adv 5 [] K3_75
noncomputable def K3_77 : List Item := adv 6 [] (popK (popK K3_76))
noncomputable def K3_78 : List Item := adv 8 [] K3_76
set_option maxRecDepth 20000 in
set_option maxHeartbeats 20000000 in
theorem lawwords_any (i : Ins) (a : Option Addr) (n c : Nat) (l : List Int) (s : ByteArray) (w : World) (hi : insQ w i) (hI : Ones (Value.int .u8) w a n l) (hq : ∀ y ∈ l, 0 ≤ y ∧ y ≤ 255) (hcap : n ≤ c) (hs : s.size ≤ 9223372036854775807) (hW : TabW w) : Ret Tryd.prog 3 #[.agg #[.int .i64 i.gOp, .int .i64 i.gA, .int .i64 i.gB, .int .i64 i.gC, .int .i64 i.gK], .slice a n c, .string s] w (fun v w' => v = .bool true ∧ Sep w [] w') := by
 have S0 := Sep.refl w
 refine Ret.named fun R hR => ?_
 refine Ret.of_J (N := 151) [(0, .agg #[.int .i64 i.gOp, .int .i64 i.gA, .int .i64 i.gB, .int .i64 i.gC, .int .i64 i.gK]), (1, .slice a n c), (2, .string s)] Tryd.func3 rfl rfl (Nat.le_of_ble_eq_true (by kernel_rfl)) (by kernel_rfl) ?_
 obtain ⟨q1, q2, q3, q4, q5, _⟩ := id hi
 have hpi := parI_q s w
 refine J.run 2 K3_0 [(0, .agg #[.int .i64 i.gOp, .int .i64 i.gA, .int .i64 i.gB, .int .i64 i.gC, .int .i64 i.gK]), (1, .slice a n c), (2, .string s)] w (by kernel_rfl) ?_
 refine J.new S0 3 [.int .i64 i.gOp, .int .i64 i.gA, .int .i64 i.gB, .int .i64 i.gC, .int .i64 i.gK] 23 (by kernel_rfl) ?_
 intro b1 w1 S1
 refine J.run 5 K3_1 [(3, .pointer (some ⟨b1, 0, none⟩)), (1, .slice a n c), (2, .string s)] w1 (by kernel_rfl) ?_
 refine J.callF 22 4 #[] hb4 (by kernel_rfl) (awake_any  _ (tabW_sep hW S1)) ?_
 rintro _ w2 ⟨rfl, T1⟩
 have S2 : Sep w [box b1 [.int .i64 i.gOp, .int .i64 i.gA, .int .i64 i.gB, .int .i64 i.gC, .int .i64 i.gK] 23] w2 := S1.trans T1
 clear T1 S1
 refine J.run 11 K3_2 [(27, .bool (decide ((n : Int) > 40))), (3, .pointer (some ⟨b1, 0, none⟩)), (1, .slice a n c), (2, .string s)] w2 (by kernel_rfl) ?_
 by_cases fk1 : (n : Int) > 40
 ·skip
  refine J.head (.bool true) (congrArg Value.bool (decide_eq_true fk1)) ?_
  refine J.run 10 K3_3 [(6, .bool true)] w2 (by kernel_rfl) ?_
  refine J.ret Tryd.f3 [.bool true] Tryd.func3 ⟨by kernel_rfl, trivial⟩ ?_
  refine hR _ _ ?_
  exact ⟨rfl, S2.nil⟩
 ·skip
  refine J.head (.bool false) (congrArg Value.bool (decide_eq_false fk1)) ?_
  refine J.run 5 K3_4 [(31, .bool (decide ((s.size : Int) > 200))), (3, .pointer (some ⟨b1, 0, none⟩)), (1, .slice a n c), (2, .string s)] w2 (by kernel_rfl) ?_
  by_cases fk2 : (s.size : Int) > 200
  ·skip
   refine J.head (.bool true) (congrArg Value.bool (decide_eq_true fk2)) ?_
   refine J.run 5 K3_5 [(6, .bool true)] w2 (by kernel_rfl) ?_
   refine J.ret Tryd.f3 [.bool true] Tryd.func3 ⟨by kernel_rfl, trivial⟩ ?_
   refine hR _ _ ?_
   exact ⟨rfl, S2.nil⟩
  ·skip
   refine J.head (.bool false) (congrArg Value.bool (decide_eq_false fk2)) ?_
   refine J.run 4 K3_6 [(3, .pointer (some ⟨b1, 0, none⟩)), (1, .slice a n c), (2, .string s)] w2 (by kernel_rfl) ?_
   refine J.ok (OK.ldBox S2 0 33 23 0 (.agg #[.int .i64 i.gOp, .int .i64 i.gA, .int .i64 i.gB, .int .i64 i.gC, .int .i64 i.gK]) (by kernel_rfl) rfl (by kernel_rfl)) ?_
   refine J.callF 34 5 #[.agg #[.int .i64 i.gOp, .int .i64 i.gA, .int .i64 i.gB, .int .i64 i.gC, .int .i64 i.gK]] hb5 (by kernel_rfl) (encode_any i _ (insQ_sep hi S2)) ?_
   rintro _ w3 ⟨ra1, rc1, rfl, T2⟩
   have S3 : Sep w [rowOf (enc1 (Value.int .u8)) ra1 rc1 5 1 (encX i), box b1 [.int .i64 i.gOp, .int .i64 i.gA, .int .i64 i.gB, .int .i64 i.gC, .int .i64 i.gK] 23] w3 := S2.trans T2
   clear T2 S2
   have := encX_len i
   refine J.run 8 K3_7 [(8, .int .i64 (encE i)), (7, .slice ra1 ((encX i).length) rc1), (3, .pointer (some ⟨b1, 0, none⟩)), (1, .slice a n c), (2, .string s)] w3 (by kernel_rfl) ?_
   refine J.ok (OK.ldBox S3 1 37 23 0 (.agg #[.int .i64 i.gOp, .int .i64 i.gA, .int .i64 i.gB, .int .i64 i.gC, .int .i64 i.gK]) (by kernel_rfl) rfl (by kernel_rfl)) ?_
   refine J.callF 38 6 #[.agg #[.int .i64 i.gOp, .int .i64 i.gA, .int .i64 i.gB, .int .i64 i.gC, .int .i64 i.gK]] hb6 (by kernel_rfl) (mtext_any i _ (insQ_sep hi S3) (tabW_sep hW S3)) ?_
   rintro _ w4 ⟨rfl, T3⟩
   have S4 : Sep w [rowOf (enc1 (Value.int .u8)) ra1 rc1 5 1 (encX i), box b1 [.int .i64 i.gOp, .int .i64 i.gA, .int .i64 i.gB, .int .i64 i.gC, .int .i64 i.gK] 23] w4 := S3.trans T3
   clear T3 S3
   have hts := textI_size i
   refine J.run 5 K3_8 [(9, .string (textI i)), (8, .int .i64 (encE i)), (7, .slice ra1 ((encX i).length) rc1), (3, .pointer (some ⟨b1, 0, none⟩)), (1, .slice a n c), (2, .string s)] w4 (by kernel_rfl) ?_
   refine J.ok (OK.ldBox S4 1 39 23 0 (.agg #[.int .i64 i.gOp, .int .i64 i.gA, .int .i64 i.gB, .int .i64 i.gC, .int .i64 i.gK]) (by kernel_rfl) rfl (by kernel_rfl)) ?_
   refine J.callF 40 7 #[.agg #[.int .i64 i.gOp, .int .i64 i.gA, .int .i64 i.gB, .int .i64 i.gC, .int .i64 i.gK]] hb7 (by kernel_rfl) (rformed_any i _ (insQ_sep hi S4)) ?_
   rintro _ w5 ⟨rfl, T4⟩
   have S5 : Sep w [rowOf (enc1 (Value.int .u8)) ra1 rc1 5 1 (encX i), box b1 [.int .i64 i.gOp, .int .i64 i.gA, .int .i64 i.gB, .int .i64 i.gC, .int .i64 i.gK] 23] w5 := S4.trans T4
   clear T4 S4
   refine J.run 2 K3_9 [(41, .bool (!(formB i))), (9, .string (textI i)), (8, .int .i64 (encE i)), (7, .slice ra1 ((encX i).length) rc1), (3, .pointer (some ⟨b1, 0, none⟩)), (1, .slice a n c), (2, .string s)] w5 (by kernel_rfl) ?_
   rcases Bool.eq_false_or_eq_true (formB i) with fk3 | fk3
   ·skip
    refine J.head (.bool false) (congrArg Value.bool (by rw [fk3]; rfl)) ?_
    refine J.run 4 K3_10 [(54, .slice ra1 ((encX i).length) rc1), (9, .string (textI i)), (8, .int .i64 (encE i)), (7, .slice ra1 ((encX i).length) rc1), (3, .pointer (some ⟨b1, 0, none⟩)), (1, .slice a n c), (2, .string s)] w5 (by kernel_rfl) ?_
    have := rowOf_len (S5.nth 0 rfl)
    refine J.callF 55 8 #[.slice ra1 ((encX i).length) rc1] hb8 (by kernel_rfl) (decode_any ra1 ((encX i).length) rc1 (encX i) _ ((row1_ones (S5.nth 0 rfl) ((encX i).length) (by first | rfl | omega | simp))) (encX_q i) ((rowOf_cells (S5.nth 0 rfl)).2.2)) ?_
    rintro _ w6 ⟨rfl, T5⟩
    have S6 : Sep w [rowOf (enc1 (Value.int .u8)) ra1 rc1 5 1 (encX i), box b1 [.int .i64 i.gOp, .int .i64 i.gA, .int .i64 i.gB, .int .i64 i.gC, .int .i64 i.gK] 23] w6 := S5.trans T5
    clear T5 S5
    refine J.run 3 K3_11 [(57, .int .i64 (decE (encX i))), (56, .agg #[.int .i64 ((decR (encX i)).gOp), .int .i64 ((decR (encX i)).gA), .int .i64 ((decR (encX i)).gB), .int .i64 ((decR (encX i)).gC), .int .i64 ((decR (encX i)).gK)]), (9, .string (textI i)), (8, .int .i64 (encE i)), (7, .slice ra1 ((encX i).length) rc1), (3, .pointer (some ⟨b1, 0, none⟩)), (1, .slice a n c), (2, .string s)] w6 (by kernel_rfl) ?_
    refine J.new S6 10 [.int .i64 0, .int .i64 0, .int .i64 0, .int .i64 0, .int .i64 0] 23 (by kernel_rfl) ?_
    intro b2 w7 S7
    refine J.stBox S7 0 23 0 (.agg #[.int .i64 ((decR (encX i)).gOp), .int .i64 ((decR (encX i)).gA), .int .i64 ((decR (encX i)).gB), .int .i64 ((decR (encX i)).gC), .int .i64 ((decR (encX i)).gK)]) [.int .i64 ((decR (encX i)).gOp), .int .i64 ((decR (encX i)).gA), .int .i64 ((decR (encX i)).gB), .int .i64 ((decR (encX i)).gC), .int .i64 ((decR (encX i)).gK)] [box b2 [.int .i64 ((decR (encX i)).gOp), .int .i64 ((decR (encX i)).gA), .int .i64 ((decR (encX i)).gB), .int .i64 ((decR (encX i)).gC), .int .i64 ((decR (encX i)).gK)] 23, rowOf (enc1 (Value.int .u8)) ra1 rc1 5 1 (encX i), box b1 [.int .i64 i.gOp, .int .i64 i.gA, .int .i64 i.gB, .int .i64 i.gC, .int .i64 i.gK] 23] (by kernel_rfl) rfl (by kernel_rfl) (by kernel_rfl) rfl ?_
    intro w8 S8
    refine J.run 5 K3_12 [(59, .string (textI i)), (11, .int .i64 (decE (encX i))), (10, .pointer (some ⟨b2, 0, none⟩)), (9, .string (textI i)), (8, .int .i64 (encE i)), (7, .slice ra1 ((encX i).length) rc1), (3, .pointer (some ⟨b1, 0, none⟩)), (1, .slice a n c), (2, .string s)] w8 (by kernel_rfl) ?_
    refine J.callF 60 9 #[.string (textI i)] hb9 (by kernel_rfl) (mparse_any (textI i) _ (by omega) (tabW_sep hW S8)) ?_
    rintro _ w9 ⟨rfl, T6⟩
    have S9 : Sep w [box b2 [.int .i64 ((decR (encX i)).gOp), .int .i64 ((decR (encX i)).gA), .int .i64 ((decR (encX i)).gB), .int .i64 ((decR (encX i)).gC), .int .i64 ((decR (encX i)).gK)] 23, rowOf (enc1 (Value.int .u8)) ra1 rc1 5 1 (encX i), box b1 [.int .i64 i.gOp, .int .i64 i.gA, .int .i64 i.gB, .int .i64 i.gC, .int .i64 i.gK] 23] w9 := S8.trans T6
    clear T6 S8
    refine J.run 3 K3_13 [(62, .int .i64 (parIE (textI i))), (61, .agg #[.int .i64 ((parI (textI i)).gOp), .int .i64 ((parI (textI i)).gA), .int .i64 ((parI (textI i)).gB), .int .i64 ((parI (textI i)).gC), .int .i64 ((parI (textI i)).gK)]), (11, .int .i64 (decE (encX i))), (10, .pointer (some ⟨b2, 0, none⟩)), (9, .string (textI i)), (8, .int .i64 (encE i)), (7, .slice ra1 ((encX i).length) rc1), (3, .pointer (some ⟨b1, 0, none⟩)), (1, .slice a n c), (2, .string s)] w9 (by kernel_rfl) ?_
    refine J.new S9 12 [.int .i64 0, .int .i64 0, .int .i64 0, .int .i64 0, .int .i64 0] 23 (by kernel_rfl) ?_
    intro b3 w10 S10
    refine J.stBox S10 0 23 0 (.agg #[.int .i64 ((parI (textI i)).gOp), .int .i64 ((parI (textI i)).gA), .int .i64 ((parI (textI i)).gB), .int .i64 ((parI (textI i)).gC), .int .i64 ((parI (textI i)).gK)]) [.int .i64 ((parI (textI i)).gOp), .int .i64 ((parI (textI i)).gA), .int .i64 ((parI (textI i)).gB), .int .i64 ((parI (textI i)).gC), .int .i64 ((parI (textI i)).gK)] [box b3 [.int .i64 ((parI (textI i)).gOp), .int .i64 ((parI (textI i)).gA), .int .i64 ((parI (textI i)).gB), .int .i64 ((parI (textI i)).gC), .int .i64 ((parI (textI i)).gK)] 23, box b2 [.int .i64 ((decR (encX i)).gOp), .int .i64 ((decR (encX i)).gA), .int .i64 ((decR (encX i)).gB), .int .i64 ((decR (encX i)).gC), .int .i64 ((decR (encX i)).gK)] 23, rowOf (enc1 (Value.int .u8)) ra1 rc1 5 1 (encX i), box b1 [.int .i64 i.gOp, .int .i64 i.gA, .int .i64 i.gB, .int .i64 i.gC, .int .i64 i.gK] 23] (by kernel_rfl) rfl (by kernel_rfl) (by kernel_rfl) rfl ?_
    intro w11 S11
    refine J.run 7 K3_14 [(65, .bool ((encE i) != 0)), (13, .int .i64 (parIE (textI i))), (12, .pointer (some ⟨b3, 0, none⟩)), (11, .int .i64 (decE (encX i))), (10, .pointer (some ⟨b2, 0, none⟩)), (9, .string (textI i)), (7, .slice ra1 ((encX i).length) rc1), (3, .pointer (some ⟨b1, 0, none⟩)), (1, .slice a n c), (2, .string s)] w11 (by kernel_rfl) ?_
    have fk5 : (encE i) = 0 := (encX_yes fk3).2
    refine J.head (.bool false) (congrArg Value.bool (bne_eq_false_iff_eq.2 fk5)) ?_
    refine J.run 1 K3_15 [(66, .slice ra1 ((encX i).length) rc1), (65, .bool false), (13, .int .i64 (parIE (textI i))), (12, .pointer (some ⟨b3, 0, none⟩)), (11, .int .i64 (decE (encX i))), (10, .pointer (some ⟨b2, 0, none⟩)), (9, .string (textI i)), (3, .pointer (some ⟨b1, 0, none⟩)), (1, .slice a n c), (2, .string s)] w11 (by kernel_rfl) ?_
    refine J.ok (OK.ldBox S11 3 67 23 0 (.agg #[.int .i64 i.gOp, .int .i64 i.gA, .int .i64 i.gB, .int .i64 i.gC, .int .i64 i.gK]) (by kernel_rfl) rfl (by kernel_rfl)) ?_
    refine J.callF 68 11 #[.agg #[.int .i64 i.gOp, .int .i64 i.gA, .int .i64 i.gB, .int .i64 i.gC, .int .i64 i.gK]] hb11 (by kernel_rfl) (rencode_any i _ (insQ_sep hi S11)) ?_
    rintro _ w12 ⟨ra2, rc2, rfl, T7⟩
    have S12 : Sep w [rowOf (enc1 (Value.int .u8)) ra2 rc2 5 1 (encL i), box b3 [.int .i64 ((parI (textI i)).gOp), .int .i64 ((parI (textI i)).gA), .int .i64 ((parI (textI i)).gB), .int .i64 ((parI (textI i)).gC), .int .i64 ((parI (textI i)).gK)] 23, box b2 [.int .i64 ((decR (encX i)).gOp), .int .i64 ((decR (encX i)).gA), .int .i64 ((decR (encX i)).gB), .int .i64 ((decR (encX i)).gC), .int .i64 ((decR (encX i)).gK)] 23, rowOf (enc1 (Value.int .u8)) ra1 rc1 5 1 (encX i), box b1 [.int .i64 i.gOp, .int .i64 i.gA, .int .i64 i.gB, .int .i64 i.gC, .int .i64 i.gK] 23] w12 := S11.trans T7
    clear T7 S11
    have := rowOf_len (S12.nth 3 rfl)
    have := rowOf_len (S12.nth 3 rfl)
    have := rowOf_len (S12.nth 0 rfl)
    have := rowOf_len (S12.nth 0 rfl)
    refine J.callF 69 10 #[.slice ra1 ((encX i).length) rc1, .slice ra2 ((encL i).length) rc2] hb10 (by kernel_rfl) (bequal_any ra1 ((encX i).length) rc1 (encX i) ra2 ((encL i).length) rc2 (encL i) _ ((row1_ones (S12.nth 3 rfl) ((encX i).length) (by first | rfl | omega | simp))) ((row1_ones (S12.nth 0 rfl) ((encL i).length) (by first | rfl | omega | simp))) (fun p hp => by rw [rowOf_plain (S12.nth 3 rfl) p hp]) (fun p hp => by rw [rowOf_plain (S12.nth 0 rfl) p hp])) ?_
    rintro _ w13 ⟨rfl, T8⟩
    have S13 : Sep w [rowOf (enc1 (Value.int .u8)) ra2 rc2 5 1 (encL i), box b3 [.int .i64 ((parI (textI i)).gOp), .int .i64 ((parI (textI i)).gA), .int .i64 ((parI (textI i)).gB), .int .i64 ((parI (textI i)).gC), .int .i64 ((parI (textI i)).gK)] 23, box b2 [.int .i64 ((decR (encX i)).gOp), .int .i64 ((decR (encX i)).gA), .int .i64 ((decR (encX i)).gB), .int .i64 ((decR (encX i)).gC), .int .i64 ((decR (encX i)).gK)] 23, rowOf (enc1 (Value.int .u8)) ra1 rc1 5 1 (encX i), box b1 [.int .i64 i.gOp, .int .i64 i.gA, .int .i64 i.gB, .int .i64 i.gC, .int .i64 i.gK] 23] w13 := S12.trans T8
    clear T8 S12
    refine J.run 3 K3_16 [(72, .bool (!((bytesB (encX i)).toList == (bytesB (encL i)).toList))), (13, .int .i64 (parIE (textI i))), (12, .pointer (some ⟨b3, 0, none⟩)), (11, .int .i64 (decE (encX i))), (10, .pointer (some ⟨b2, 0, none⟩)), (9, .string (textI i)), (3, .pointer (some ⟨b1, 0, none⟩)), (1, .slice a n c), (2, .string s)] w13 (by kernel_rfl) ?_
    have fk7 : ((bytesB (encX i)).toList == (bytesB (encL i)).toList) = true := enc_same fk3
    refine J.head (.bool false) (congrArg Value.bool (by rw [fk7]; rfl)) ?_
    refine J.run 1 K3_17 [(73, .string (textI i)), (72, .bool false), (13, .int .i64 (parIE (textI i))), (12, .pointer (some ⟨b3, 0, none⟩)), (11, .int .i64 (decE (encX i))), (10, .pointer (some ⟨b2, 0, none⟩)), (3, .pointer (some ⟨b1, 0, none⟩)), (1, .slice a n c), (2, .string s)] w13 (by kernel_rfl) ?_
    refine J.ok (OK.ldBox S13 4 74 23 0 (.agg #[.int .i64 i.gOp, .int .i64 i.gA, .int .i64 i.gB, .int .i64 i.gC, .int .i64 i.gK]) (by kernel_rfl) rfl (by kernel_rfl)) ?_
    refine J.callF 75 12 #[.agg #[.int .i64 i.gOp, .int .i64 i.gA, .int .i64 i.gB, .int .i64 i.gC, .int .i64 i.gK]] hb12 (by kernel_rfl) (rtexti_any i _ (insQ_sep hi S13) fk3) ?_
    rintro _ w14 ⟨rfl, T9⟩
    have S14 : Sep w [rowOf (enc1 (Value.int .u8)) ra2 rc2 5 1 (encL i), box b3 [.int .i64 ((parI (textI i)).gOp), .int .i64 ((parI (textI i)).gA), .int .i64 ((parI (textI i)).gB), .int .i64 ((parI (textI i)).gC), .int .i64 ((parI (textI i)).gK)] 23, box b2 [.int .i64 ((decR (encX i)).gOp), .int .i64 ((decR (encX i)).gA), .int .i64 ((decR (encX i)).gB), .int .i64 ((decR (encX i)).gC), .int .i64 ((decR (encX i)).gK)] 23, rowOf (enc1 (Value.int .u8)) ra1 rc1 5 1 (encX i), box b1 [.int .i64 i.gOp, .int .i64 i.gA, .int .i64 i.gB, .int .i64 i.gC, .int .i64 i.gK] 23] w14 := S13.trans T9
    clear T9 S13
    refine J.run 1 K3_18 [(76, .bool (!((textI i).toList == (textI i).toList))), (72, .bool false), (13, .int .i64 (parIE (textI i))), (12, .pointer (some ⟨b3, 0, none⟩)), (11, .int .i64 (decE (encX i))), (10, .pointer (some ⟨b2, 0, none⟩)), (3, .pointer (some ⟨b1, 0, none⟩)), (1, .slice a n c), (2, .string s)] w14 (by kernel_rfl) ?_
    refine J.head (.bool false) (congrArg Value.bool (by simp)) ?_
    refine J.run 6 K3_19 [(82, .bool ((decE (encX i)) != 0)), (13, .int .i64 (parIE (textI i))), (12, .pointer (some ⟨b3, 0, none⟩)), (10, .pointer (some ⟨b2, 0, none⟩)), (3, .pointer (some ⟨b1, 0, none⟩)), (1, .slice a n c), (2, .string s)] w14 (by kernel_rfl) ?_
    have fk9 : (decE (encX i)) = 0 := (dec_enc fk3).2
    refine J.head (.bool false) (congrArg Value.bool (bne_eq_false_iff_eq.2 fk9)) ?_
    refine J.ok (OK.ldBox S14 2 83 23 0 (.agg #[.int .i64 ((decR (encX i)).gOp), .int .i64 ((decR (encX i)).gA), .int .i64 ((decR (encX i)).gB), .int .i64 ((decR (encX i)).gC), .int .i64 ((decR (encX i)).gK)]) (by kernel_rfl) rfl (by kernel_rfl)) ?_
    refine J.ok (OK.ldBox S14 4 84 23 0 (.agg #[.int .i64 i.gOp, .int .i64 i.gA, .int .i64 i.gB, .int .i64 i.gC, .int .i64 i.gK]) (by kernel_rfl) rfl (by kernel_rfl)) ?_
    refine J.ok (OK.eqS 85 false 23 #[.int .i64 ((decR (encX i)).gOp), .int .i64 ((decR (encX i)).gA), .int .i64 ((decR (encX i)).gB), .int .i64 ((decR (encX i)).gC), .int .i64 ((decR (encX i)).gK)] #[.int .i64 i.gOp, .int .i64 i.gA, .int .i64 i.gB, .int .i64 i.gC, .int .i64 i.gK] ((((decR (encX i)).gOp) == i.gOp) && ((((decR (encX i)).gA) == i.gA) && ((((decR (encX i)).gB) == i.gB) && ((((decR (encX i)).gC) == i.gC) && ((((decR (encX i)).gK) == i.gK) && true))))) (by kernel_rfl) (by kernel_rfl) (by kernel_rfl) (!((((decR (encX i)).gOp) == i.gOp) && ((((decR (encX i)).gA) == i.gA) && ((((decR (encX i)).gB) == i.gB) && ((((decR (encX i)).gC) == i.gC) && (((decR (encX i)).gK) == i.gK)))))) (by simp)) ?_
    refine J.run 2 K3_20 [(87, .bool (!((((decR (encX i)).gOp) == i.gOp) && ((((decR (encX i)).gA) == i.gA) && ((((decR (encX i)).gB) == i.gB) && ((((decR (encX i)).gC) == i.gC) && (((decR (encX i)).gK) == i.gK))))))), (13, .int .i64 (parIE (textI i))), (12, .pointer (some ⟨b3, 0, none⟩)), (3, .pointer (some ⟨b1, 0, none⟩)), (1, .slice a n c), (2, .string s)] w14 (by kernel_rfl) ?_
    have fk11 : ((((decR (encX i)).gOp) == i.gOp) && ((((decR (encX i)).gA) == i.gA) && ((((decR (encX i)).gB) == i.gB) && ((((decR (encX i)).gC) == i.gC) && (((decR (encX i)).gK) == i.gK))))) = true := (by rw [(dec_enc fk3).1]; simp)
    refine J.head (.bool false) (congrArg Value.bool (by rw [fk11]; rfl)) ?_
    refine J.run 4 K3_21 [(91, .bool ((parIE (textI i)) != 0)), (12, .pointer (some ⟨b3, 0, none⟩)), (3, .pointer (some ⟨b1, 0, none⟩)), (1, .slice a n c), (2, .string s)] w14 (by kernel_rfl) ?_
    have fk13 : (parIE (textI i)) = 0 := (par_own fk3).2
    refine J.head (.bool false) (congrArg Value.bool (bne_eq_false_iff_eq.2 fk13)) ?_
    refine J.ok (OK.ldBox S14 1 92 23 0 (.agg #[.int .i64 ((parI (textI i)).gOp), .int .i64 ((parI (textI i)).gA), .int .i64 ((parI (textI i)).gB), .int .i64 ((parI (textI i)).gC), .int .i64 ((parI (textI i)).gK)]) (by kernel_rfl) rfl (by kernel_rfl)) ?_
    refine J.ok (OK.ldBox S14 4 93 23 0 (.agg #[.int .i64 i.gOp, .int .i64 i.gA, .int .i64 i.gB, .int .i64 i.gC, .int .i64 i.gK]) (by kernel_rfl) rfl (by kernel_rfl)) ?_
    refine J.ok (OK.eqS 94 false 23 #[.int .i64 ((parI (textI i)).gOp), .int .i64 ((parI (textI i)).gA), .int .i64 ((parI (textI i)).gB), .int .i64 ((parI (textI i)).gC), .int .i64 ((parI (textI i)).gK)] #[.int .i64 i.gOp, .int .i64 i.gA, .int .i64 i.gB, .int .i64 i.gC, .int .i64 i.gK] ((((parI (textI i)).gOp) == i.gOp) && ((((parI (textI i)).gA) == i.gA) && ((((parI (textI i)).gB) == i.gB) && ((((parI (textI i)).gC) == i.gC) && ((((parI (textI i)).gK) == i.gK) && true))))) (by kernel_rfl) (by kernel_rfl) (by kernel_rfl) (!((((parI (textI i)).gOp) == i.gOp) && ((((parI (textI i)).gA) == i.gA) && ((((parI (textI i)).gB) == i.gB) && ((((parI (textI i)).gC) == i.gC) && (((parI (textI i)).gK) == i.gK)))))) (by simp)) ?_
    refine J.run 2 K3_22 [(95, .bool (!((((parI (textI i)).gOp) == i.gOp) && ((((parI (textI i)).gA) == i.gA) && ((((parI (textI i)).gB) == i.gB) && ((((parI (textI i)).gC) == i.gC) && (((parI (textI i)).gK) == i.gK))))))), (1, .slice a n c), (2, .string s)] w14 (by kernel_rfl) ?_
    have fk15 : ((((parI (textI i)).gOp) == i.gOp) && ((((parI (textI i)).gA) == i.gA) && ((((parI (textI i)).gB) == i.gB) && ((((parI (textI i)).gC) == i.gC) && (((parI (textI i)).gK) == i.gK))))) = true := (by rw [(par_own fk3).1]; simp)
    refine J.head (.bool false) (congrArg Value.bool (by rw [fk15]; rfl)) ?_
    refine J.run 5 K3_23 [(97, .slice a n c), (1, .slice a n c), (2, .string s)] w14 (by kernel_rfl) ?_
    refine J.callF 98 8 #[.slice a n c] hb8 (by kernel_rfl) (decode_any a n c l _ (hI.sep S14) hq (hcap)) ?_
    rintro _ w15 ⟨rfl, T10⟩
    have S15 : Sep w [rowOf (enc1 (Value.int .u8)) ra2 rc2 5 1 (encL i), box b3 [.int .i64 ((parI (textI i)).gOp), .int .i64 ((parI (textI i)).gA), .int .i64 ((parI (textI i)).gB), .int .i64 ((parI (textI i)).gC), .int .i64 ((parI (textI i)).gK)] 23, box b2 [.int .i64 ((decR (encX i)).gOp), .int .i64 ((decR (encX i)).gA), .int .i64 ((decR (encX i)).gB), .int .i64 ((decR (encX i)).gC), .int .i64 ((decR (encX i)).gK)] 23, rowOf (enc1 (Value.int .u8)) ra1 rc1 5 1 (encX i), box b1 [.int .i64 i.gOp, .int .i64 i.gA, .int .i64 i.gB, .int .i64 i.gC, .int .i64 i.gK] 23] w15 := S14.trans T10
    clear T10 S14
    refine J.run 3 K3_24 [(100, .int .i64 (decE l)), (99, .agg #[.int .i64 ((decR l).gOp), .int .i64 ((decR l).gA), .int .i64 ((decR l).gB), .int .i64 ((decR l).gC), .int .i64 ((decR l).gK)]), (1, .slice a n c), (2, .string s)] w15 (by kernel_rfl) ?_
    refine J.new S15 14 [.int .i64 0, .int .i64 0, .int .i64 0, .int .i64 0, .int .i64 0] 23 (by kernel_rfl) ?_
    intro b4 w16 S16
    refine J.stBox S16 0 23 0 (.agg #[.int .i64 ((decR l).gOp), .int .i64 ((decR l).gA), .int .i64 ((decR l).gB), .int .i64 ((decR l).gC), .int .i64 ((decR l).gK)]) [.int .i64 ((decR l).gOp), .int .i64 ((decR l).gA), .int .i64 ((decR l).gB), .int .i64 ((decR l).gC), .int .i64 ((decR l).gK)] [box b4 [.int .i64 ((decR l).gOp), .int .i64 ((decR l).gA), .int .i64 ((decR l).gB), .int .i64 ((decR l).gC), .int .i64 ((decR l).gK)] 23, rowOf (enc1 (Value.int .u8)) ra2 rc2 5 1 (encL i), box b3 [.int .i64 ((parI (textI i)).gOp), .int .i64 ((parI (textI i)).gA), .int .i64 ((parI (textI i)).gB), .int .i64 ((parI (textI i)).gC), .int .i64 ((parI (textI i)).gK)] 23, box b2 [.int .i64 ((decR (encX i)).gOp), .int .i64 ((decR (encX i)).gA), .int .i64 ((decR (encX i)).gB), .int .i64 ((decR (encX i)).gC), .int .i64 ((decR (encX i)).gK)] 23, rowOf (enc1 (Value.int .u8)) ra1 rc1 5 1 (encX i), box b1 [.int .i64 i.gOp, .int .i64 i.gA, .int .i64 i.gB, .int .i64 i.gC, .int .i64 i.gK] 23] (by kernel_rfl) rfl (by kernel_rfl) (by kernel_rfl) rfl ?_
    intro w17 S17
    refine J.run 5 K3_25 [(102, .slice a n c), (15, .int .i64 (decE l)), (14, .pointer (some ⟨b4, 0, none⟩)), (2, .string s)] w17 (by kernel_rfl) ?_
    refine J.callF 103 13 #[.slice a n c] hb13 (by kernel_rfl) (rdecode_any a n c l _ (hI.sep S17) hq (hcap)) ?_
    rintro _ w18 ⟨rfl, T11⟩
    have S18 : Sep w [box b4 [.int .i64 ((decR l).gOp), .int .i64 ((decR l).gA), .int .i64 ((decR l).gB), .int .i64 ((decR l).gC), .int .i64 ((decR l).gK)] 23, rowOf (enc1 (Value.int .u8)) ra2 rc2 5 1 (encL i), box b3 [.int .i64 ((parI (textI i)).gOp), .int .i64 ((parI (textI i)).gA), .int .i64 ((parI (textI i)).gB), .int .i64 ((parI (textI i)).gC), .int .i64 ((parI (textI i)).gK)] 23, box b2 [.int .i64 ((decR (encX i)).gOp), .int .i64 ((decR (encX i)).gA), .int .i64 ((decR (encX i)).gB), .int .i64 ((decR (encX i)).gC), .int .i64 ((decR (encX i)).gK)] 23, rowOf (enc1 (Value.int .u8)) ra1 rc1 5 1 (encX i), box b1 [.int .i64 i.gOp, .int .i64 i.gA, .int .i64 i.gB, .int .i64 i.gC, .int .i64 i.gK] 23] w18 := S17.trans T11
    clear T11 S17
    refine J.run 3 K3_26 [(105, .bool (decB l)), (104, .agg #[.int .i64 ((decR l).gOp), .int .i64 ((decR l).gA), .int .i64 ((decR l).gB), .int .i64 ((decR l).gC), .int .i64 ((decR l).gK)]), (15, .int .i64 (decE l)), (14, .pointer (some ⟨b4, 0, none⟩)), (2, .string s)] w18 (by kernel_rfl) ?_
    refine J.new S18 16 [.int .i64 0, .int .i64 0, .int .i64 0, .int .i64 0, .int .i64 0] 23 (by kernel_rfl) ?_
    intro b5 w19 S19
    refine J.stBox S19 0 23 0 (.agg #[.int .i64 ((decR l).gOp), .int .i64 ((decR l).gA), .int .i64 ((decR l).gB), .int .i64 ((decR l).gC), .int .i64 ((decR l).gK)]) [.int .i64 ((decR l).gOp), .int .i64 ((decR l).gA), .int .i64 ((decR l).gB), .int .i64 ((decR l).gC), .int .i64 ((decR l).gK)] [box b5 [.int .i64 ((decR l).gOp), .int .i64 ((decR l).gA), .int .i64 ((decR l).gB), .int .i64 ((decR l).gC), .int .i64 ((decR l).gK)] 23, box b4 [.int .i64 ((decR l).gOp), .int .i64 ((decR l).gA), .int .i64 ((decR l).gB), .int .i64 ((decR l).gC), .int .i64 ((decR l).gK)] 23, rowOf (enc1 (Value.int .u8)) ra2 rc2 5 1 (encL i), box b3 [.int .i64 ((parI (textI i)).gOp), .int .i64 ((parI (textI i)).gA), .int .i64 ((parI (textI i)).gB), .int .i64 ((parI (textI i)).gC), .int .i64 ((parI (textI i)).gK)] 23, box b2 [.int .i64 ((decR (encX i)).gOp), .int .i64 ((decR (encX i)).gA), .int .i64 ((decR (encX i)).gB), .int .i64 ((decR (encX i)).gC), .int .i64 ((decR (encX i)).gK)] 23, rowOf (enc1 (Value.int .u8)) ra1 rc1 5 1 (encX i), box b1 [.int .i64 i.gOp, .int .i64 i.gA, .int .i64 i.gB, .int .i64 i.gC, .int .i64 i.gK] 23] (by kernel_rfl) rfl (by kernel_rfl) (by kernel_rfl) rfl ?_
    intro w20 S20
    refine J.run 5 K3_27 [(17, .bool (decB l)), (16, .pointer (some ⟨b5, 0, none⟩)), (15, .int .i64 (decE l)), (14, .pointer (some ⟨b4, 0, none⟩)), (2, .string s)] w20 (by kernel_rfl) ?_
    refine J.ok (OK.ldBox S20 1 106 23 0 (.agg #[.int .i64 ((decR l).gOp), .int .i64 ((decR l).gA), .int .i64 ((decR l).gB), .int .i64 ((decR l).gC), .int .i64 ((decR l).gK)]) (by kernel_rfl) rfl (by kernel_rfl)) ?_
    refine J.ok (OK.ldBox S20 0 107 23 0 (.agg #[.int .i64 ((decR l).gOp), .int .i64 ((decR l).gA), .int .i64 ((decR l).gB), .int .i64 ((decR l).gC), .int .i64 ((decR l).gK)]) (by kernel_rfl) rfl (by kernel_rfl)) ?_
    refine J.ok (OK.eqS 108 false 23 #[.int .i64 ((decR l).gOp), .int .i64 ((decR l).gA), .int .i64 ((decR l).gB), .int .i64 ((decR l).gC), .int .i64 ((decR l).gK)] #[.int .i64 ((decR l).gOp), .int .i64 ((decR l).gA), .int .i64 ((decR l).gB), .int .i64 ((decR l).gC), .int .i64 ((decR l).gK)] ((((decR l).gOp) == ((decR l).gOp)) && ((((decR l).gA) == ((decR l).gA)) && ((((decR l).gB) == ((decR l).gB)) && ((((decR l).gC) == ((decR l).gC)) && ((((decR l).gK) == ((decR l).gK)) && true))))) (by kernel_rfl) (by kernel_rfl) (by kernel_rfl) false (by simp)) ?_
    refine J.run 7 K3_28 [(115, .bool (!((decB l) == ((decE l) == 0)))), (17, .bool (decB l)), (15, .int .i64 (decE l)), (2, .string s)] w20 (by kernel_rfl) ?_
    have fk17 : (!((decB l) == ((decE l) == 0))) = false := by rw [dec_flag]; rfl
    refine J.head (.bool false) (congrArg Value.bool fk17) ?_
    refine J.run 3 K3_29 [(118, .bool (!(decB l))), (115, .bool false), (15, .int .i64 (decE l)), (2, .string s)] w20 (by kernel_rfl) ?_
    rcases Bool.eq_false_or_eq_true (decB l) with fk18 | fk18
    ·skip
     refine J.head (.bool false) (congrArg Value.bool (by rw [fk18]; rfl)) ?_
     refine J.run 10 K3_30 [(124, .string s), (2, .string s)] w20 (by kernel_rfl) ?_
     refine J.callF 125 9 #[.string s] hb9 (by kernel_rfl) (mparse_any s _ (by omega) (tabW_sep hW S20)) ?_
     rintro _ w21 ⟨rfl, T12⟩
     have S21 : Sep w [box b5 [.int .i64 ((decR l).gOp), .int .i64 ((decR l).gA), .int .i64 ((decR l).gB), .int .i64 ((decR l).gC), .int .i64 ((decR l).gK)] 23, box b4 [.int .i64 ((decR l).gOp), .int .i64 ((decR l).gA), .int .i64 ((decR l).gB), .int .i64 ((decR l).gC), .int .i64 ((decR l).gK)] 23, rowOf (enc1 (Value.int .u8)) ra2 rc2 5 1 (encL i), box b3 [.int .i64 ((parI (textI i)).gOp), .int .i64 ((parI (textI i)).gA), .int .i64 ((parI (textI i)).gB), .int .i64 ((parI (textI i)).gC), .int .i64 ((parI (textI i)).gK)] 23, box b2 [.int .i64 ((decR (encX i)).gOp), .int .i64 ((decR (encX i)).gA), .int .i64 ((decR (encX i)).gB), .int .i64 ((decR (encX i)).gC), .int .i64 ((decR (encX i)).gK)] 23, rowOf (enc1 (Value.int .u8)) ra1 rc1 5 1 (encX i), box b1 [.int .i64 i.gOp, .int .i64 i.gA, .int .i64 i.gB, .int .i64 i.gC, .int .i64 i.gK] 23] w21 := S20.trans T12
     clear T12 S20
     refine J.run 3 K3_31 [(127, .int .i64 (parIE s)), (126, .agg #[.int .i64 ((parI s).gOp), .int .i64 ((parI s).gA), .int .i64 ((parI s).gB), .int .i64 ((parI s).gC), .int .i64 ((parI s).gK)]), (2, .string s)] w21 (by kernel_rfl) ?_
     refine J.new S21 18 [.int .i64 0, .int .i64 0, .int .i64 0, .int .i64 0, .int .i64 0] 23 (by kernel_rfl) ?_
     intro b6 w22 S22
     refine J.stBox S22 0 23 0 (.agg #[.int .i64 ((parI s).gOp), .int .i64 ((parI s).gA), .int .i64 ((parI s).gB), .int .i64 ((parI s).gC), .int .i64 ((parI s).gK)]) [.int .i64 ((parI s).gOp), .int .i64 ((parI s).gA), .int .i64 ((parI s).gB), .int .i64 ((parI s).gC), .int .i64 ((parI s).gK)] [box b6 [.int .i64 ((parI s).gOp), .int .i64 ((parI s).gA), .int .i64 ((parI s).gB), .int .i64 ((parI s).gC), .int .i64 ((parI s).gK)] 23, box b5 [.int .i64 ((decR l).gOp), .int .i64 ((decR l).gA), .int .i64 ((decR l).gB), .int .i64 ((decR l).gC), .int .i64 ((decR l).gK)] 23, box b4 [.int .i64 ((decR l).gOp), .int .i64 ((decR l).gA), .int .i64 ((decR l).gB), .int .i64 ((decR l).gC), .int .i64 ((decR l).gK)] 23, rowOf (enc1 (Value.int .u8)) ra2 rc2 5 1 (encL i), box b3 [.int .i64 ((parI (textI i)).gOp), .int .i64 ((parI (textI i)).gA), .int .i64 ((parI (textI i)).gB), .int .i64 ((parI (textI i)).gC), .int .i64 ((parI (textI i)).gK)] 23, box b2 [.int .i64 ((decR (encX i)).gOp), .int .i64 ((decR (encX i)).gA), .int .i64 ((decR (encX i)).gB), .int .i64 ((decR (encX i)).gC), .int .i64 ((decR (encX i)).gK)] 23, rowOf (enc1 (Value.int .u8)) ra1 rc1 5 1 (encX i), box b1 [.int .i64 i.gOp, .int .i64 i.gA, .int .i64 i.gB, .int .i64 i.gC, .int .i64 i.gK] 23] (by kernel_rfl) rfl (by kernel_rfl) (by kernel_rfl) rfl ?_
     intro w23 S23
     refine J.run 5 K3_32 [(129, .string s), (19, .int .i64 (parIE s)), (18, .pointer (some ⟨b6, 0, none⟩)), (2, .string s)] w23 (by kernel_rfl) ?_
     refine J.callF 130 14 #[.string s] hb14 (by kernel_rfl) (rparsei_any s _ (by omega)) ?_
     rintro _ w24 ⟨rfl, T13⟩
     have S24 : Sep w [box b6 [.int .i64 ((parI s).gOp), .int .i64 ((parI s).gA), .int .i64 ((parI s).gB), .int .i64 ((parI s).gC), .int .i64 ((parI s).gK)] 23, box b5 [.int .i64 ((decR l).gOp), .int .i64 ((decR l).gA), .int .i64 ((decR l).gB), .int .i64 ((decR l).gC), .int .i64 ((decR l).gK)] 23, box b4 [.int .i64 ((decR l).gOp), .int .i64 ((decR l).gA), .int .i64 ((decR l).gB), .int .i64 ((decR l).gC), .int .i64 ((decR l).gK)] 23, rowOf (enc1 (Value.int .u8)) ra2 rc2 5 1 (encL i), box b3 [.int .i64 ((parI (textI i)).gOp), .int .i64 ((parI (textI i)).gA), .int .i64 ((parI (textI i)).gB), .int .i64 ((parI (textI i)).gC), .int .i64 ((parI (textI i)).gK)] 23, box b2 [.int .i64 ((decR (encX i)).gOp), .int .i64 ((decR (encX i)).gA), .int .i64 ((decR (encX i)).gB), .int .i64 ((decR (encX i)).gC), .int .i64 ((decR (encX i)).gK)] 23, rowOf (enc1 (Value.int .u8)) ra1 rc1 5 1 (encX i), box b1 [.int .i64 i.gOp, .int .i64 i.gA, .int .i64 i.gB, .int .i64 i.gC, .int .i64 i.gK] 23] w24 := S23.trans T13
     clear T13 S23
     refine J.run 3 K3_33 [(132, .int .i64 (parIE s)), (131, .agg #[.int .i64 ((parI s).gOp), .int .i64 ((parI s).gA), .int .i64 ((parI s).gB), .int .i64 ((parI s).gC), .int .i64 ((parI s).gK)]), (19, .int .i64 (parIE s)), (18, .pointer (some ⟨b6, 0, none⟩)), (2, .string s)] w24 (by kernel_rfl) ?_
     refine J.new S24 20 [.int .i64 0, .int .i64 0, .int .i64 0, .int .i64 0, .int .i64 0] 23 (by kernel_rfl) ?_
     intro b7 w25 S25
     refine J.stBox S25 0 23 0 (.agg #[.int .i64 ((parI s).gOp), .int .i64 ((parI s).gA), .int .i64 ((parI s).gB), .int .i64 ((parI s).gC), .int .i64 ((parI s).gK)]) [.int .i64 ((parI s).gOp), .int .i64 ((parI s).gA), .int .i64 ((parI s).gB), .int .i64 ((parI s).gC), .int .i64 ((parI s).gK)] [box b7 [.int .i64 ((parI s).gOp), .int .i64 ((parI s).gA), .int .i64 ((parI s).gB), .int .i64 ((parI s).gC), .int .i64 ((parI s).gK)] 23, box b6 [.int .i64 ((parI s).gOp), .int .i64 ((parI s).gA), .int .i64 ((parI s).gB), .int .i64 ((parI s).gC), .int .i64 ((parI s).gK)] 23, box b5 [.int .i64 ((decR l).gOp), .int .i64 ((decR l).gA), .int .i64 ((decR l).gB), .int .i64 ((decR l).gC), .int .i64 ((decR l).gK)] 23, box b4 [.int .i64 ((decR l).gOp), .int .i64 ((decR l).gA), .int .i64 ((decR l).gB), .int .i64 ((decR l).gC), .int .i64 ((decR l).gK)] 23, rowOf (enc1 (Value.int .u8)) ra2 rc2 5 1 (encL i), box b3 [.int .i64 ((parI (textI i)).gOp), .int .i64 ((parI (textI i)).gA), .int .i64 ((parI (textI i)).gB), .int .i64 ((parI (textI i)).gC), .int .i64 ((parI (textI i)).gK)] 23, box b2 [.int .i64 ((decR (encX i)).gOp), .int .i64 ((decR (encX i)).gA), .int .i64 ((decR (encX i)).gB), .int .i64 ((decR (encX i)).gC), .int .i64 ((decR (encX i)).gK)] 23, rowOf (enc1 (Value.int .u8)) ra1 rc1 5 1 (encX i), box b1 [.int .i64 i.gOp, .int .i64 i.gA, .int .i64 i.gB, .int .i64 i.gC, .int .i64 i.gK] 23] (by kernel_rfl) rfl (by kernel_rfl) (by kernel_rfl) rfl ?_
     intro w26 S26
     refine J.run 4 K3_34 [(21, .int .i64 (parIE s)), (20, .pointer (some ⟨b7, 0, none⟩)), (19, .int .i64 (parIE s)), (18, .pointer (some ⟨b6, 0, none⟩)), (2, .string s)] w26 (by kernel_rfl) ?_
     refine J.ok (OK.ldBox S26 1 133 23 0 (.agg #[.int .i64 ((parI s).gOp), .int .i64 ((parI s).gA), .int .i64 ((parI s).gB), .int .i64 ((parI s).gC), .int .i64 ((parI s).gK)]) (by kernel_rfl) rfl (by kernel_rfl)) ?_
     refine J.ok (OK.ldBox S26 0 134 23 0 (.agg #[.int .i64 ((parI s).gOp), .int .i64 ((parI s).gA), .int .i64 ((parI s).gB), .int .i64 ((parI s).gC), .int .i64 ((parI s).gK)]) (by kernel_rfl) rfl (by kernel_rfl)) ?_
     refine J.ok (OK.eqS 135 true 23 #[.int .i64 ((parI s).gOp), .int .i64 ((parI s).gA), .int .i64 ((parI s).gB), .int .i64 ((parI s).gC), .int .i64 ((parI s).gK)] #[.int .i64 ((parI s).gOp), .int .i64 ((parI s).gA), .int .i64 ((parI s).gB), .int .i64 ((parI s).gC), .int .i64 ((parI s).gK)] ((((parI s).gOp) == ((parI s).gOp)) && ((((parI s).gA) == ((parI s).gA)) && ((((parI s).gB) == ((parI s).gB)) && ((((parI s).gC) == ((parI s).gC)) && ((((parI s).gK) == ((parI s).gK)) && true))))) (by kernel_rfl) (by kernel_rfl) (by kernel_rfl) true (by simp)) ?_
     refine J.run 4 K3_35 [(139, .bool ((parIE s) == (parIE s))), (136, .bool true), (19, .int .i64 (parIE s)), (18, .pointer (some ⟨b6, 0, none⟩)), (2, .string s)] w26 (by kernel_rfl) ?_
     refine J.head (.bool true) (congrArg Value.bool (by simp)) ?_
     refine J.run 5 K3_36 [(144, .bool ((parIE s) != 0)), (141, .bool true), (18, .pointer (some ⟨b6, 0, none⟩)), (2, .string s)] w26 (by kernel_rfl) ?_
     by_cases fk19 : (parIE s) = 0
     ·skip
      refine J.head (.bool false) (congrArg Value.bool (bne_eq_false_iff_eq.2 fk19)) ?_
      refine J.ok (OK.ldBox S26 1 145 23 0 (.agg #[.int .i64 ((parI s).gOp), .int .i64 ((parI s).gA), .int .i64 ((parI s).gB), .int .i64 ((parI s).gC), .int .i64 ((parI s).gK)]) (by kernel_rfl) rfl (by kernel_rfl)) ?_
      refine J.callF 146 6 #[.agg #[.int .i64 ((parI s).gOp), .int .i64 ((parI s).gA), .int .i64 ((parI s).gB), .int .i64 ((parI s).gC), .int .i64 ((parI s).gK)]] hb6 (by kernel_rfl) (mtext_any (parI s) _ (insQ_sep hpi S26) (tabW_sep hW S26)) ?_
      rintro _ w27 ⟨rfl, T14⟩
      have S27 : Sep w [box b7 [.int .i64 ((parI s).gOp), .int .i64 ((parI s).gA), .int .i64 ((parI s).gB), .int .i64 ((parI s).gC), .int .i64 ((parI s).gK)] 23, box b6 [.int .i64 ((parI s).gOp), .int .i64 ((parI s).gA), .int .i64 ((parI s).gB), .int .i64 ((parI s).gC), .int .i64 ((parI s).gK)] 23, box b5 [.int .i64 ((decR l).gOp), .int .i64 ((decR l).gA), .int .i64 ((decR l).gB), .int .i64 ((decR l).gC), .int .i64 ((decR l).gK)] 23, box b4 [.int .i64 ((decR l).gOp), .int .i64 ((decR l).gA), .int .i64 ((decR l).gB), .int .i64 ((decR l).gC), .int .i64 ((decR l).gK)] 23, rowOf (enc1 (Value.int .u8)) ra2 rc2 5 1 (encL i), box b3 [.int .i64 ((parI (textI i)).gOp), .int .i64 ((parI (textI i)).gA), .int .i64 ((parI (textI i)).gB), .int .i64 ((parI (textI i)).gC), .int .i64 ((parI (textI i)).gK)] 23, box b2 [.int .i64 ((decR (encX i)).gOp), .int .i64 ((decR (encX i)).gA), .int .i64 ((decR (encX i)).gB), .int .i64 ((decR (encX i)).gC), .int .i64 ((decR (encX i)).gK)] 23, rowOf (enc1 (Value.int .u8)) ra1 rc1 5 1 (encX i), box b1 [.int .i64 i.gOp, .int .i64 i.gA, .int .i64 i.gB, .int .i64 i.gC, .int .i64 i.gK] 23] w27 := S26.trans T14
      clear T14 S26
      refine J.run 6 K3_37 [(6, .bool ((textI (parI s)).toList == s.toList))] w27 (by kernel_rfl) ?_
      refine J.ret Tryd.f3 [.bool ((textI (parI s)).toList == s.toList)] Tryd.func3 ⟨by kernel_rfl, trivial⟩ ?_
      refine hR _ _ ?_
      have fk20 : ((textI (parI s)).toList == s.toList) = true := parI_text fk19
      exact ⟨congrArg Value.bool fk20, S27.nil⟩
     ·skip
      refine J.head (.bool true) (congrArg Value.bool (bne_iff_ne.2 fk19)) ?_
      refine J.run 8 K3_38 [(6, .bool true)] w26 (by kernel_rfl) ?_
      refine J.ret Tryd.f3 [.bool true] Tryd.func3 ⟨by kernel_rfl, trivial⟩ ?_
      refine hR _ _ ?_
      exact ⟨rfl, S26.nil⟩
    ·skip
     refine J.head (.bool true) (congrArg Value.bool (by rw [fk18]; rfl)) ?_
     refine J.run 5 K3_39 [(122, .bool ((decE l) != 3)), (2, .string s)] w20 (by kernel_rfl) ?_
     have fk22 : (decE l) = 3 := dec_three fk18
     refine J.head (.bool false) (congrArg Value.bool (bne_eq_false_iff_eq.2 fk22)) ?_
     refine J.run 5 K3_40 [(124, .string s), (2, .string s)] w20 (by kernel_rfl) ?_
     refine J.callF 125 9 #[.string s] hb9 (by kernel_rfl) (mparse_any s _ (by omega) (tabW_sep hW S20)) ?_
     rintro _ w28 ⟨rfl, T15⟩
     have S28 : Sep w [box b5 [.int .i64 ((decR l).gOp), .int .i64 ((decR l).gA), .int .i64 ((decR l).gB), .int .i64 ((decR l).gC), .int .i64 ((decR l).gK)] 23, box b4 [.int .i64 ((decR l).gOp), .int .i64 ((decR l).gA), .int .i64 ((decR l).gB), .int .i64 ((decR l).gC), .int .i64 ((decR l).gK)] 23, rowOf (enc1 (Value.int .u8)) ra2 rc2 5 1 (encL i), box b3 [.int .i64 ((parI (textI i)).gOp), .int .i64 ((parI (textI i)).gA), .int .i64 ((parI (textI i)).gB), .int .i64 ((parI (textI i)).gC), .int .i64 ((parI (textI i)).gK)] 23, box b2 [.int .i64 ((decR (encX i)).gOp), .int .i64 ((decR (encX i)).gA), .int .i64 ((decR (encX i)).gB), .int .i64 ((decR (encX i)).gC), .int .i64 ((decR (encX i)).gK)] 23, rowOf (enc1 (Value.int .u8)) ra1 rc1 5 1 (encX i), box b1 [.int .i64 i.gOp, .int .i64 i.gA, .int .i64 i.gB, .int .i64 i.gC, .int .i64 i.gK] 23] w28 := S20.trans T15
     clear T15 S20
     refine J.run 3 K3_41 [(127, .int .i64 (parIE s)), (126, .agg #[.int .i64 ((parI s).gOp), .int .i64 ((parI s).gA), .int .i64 ((parI s).gB), .int .i64 ((parI s).gC), .int .i64 ((parI s).gK)]), (2, .string s)] w28 (by kernel_rfl) ?_
     refine J.new S28 18 [.int .i64 0, .int .i64 0, .int .i64 0, .int .i64 0, .int .i64 0] 23 (by kernel_rfl) ?_
     intro b8 w29 S29
     refine J.stBox S29 0 23 0 (.agg #[.int .i64 ((parI s).gOp), .int .i64 ((parI s).gA), .int .i64 ((parI s).gB), .int .i64 ((parI s).gC), .int .i64 ((parI s).gK)]) [.int .i64 ((parI s).gOp), .int .i64 ((parI s).gA), .int .i64 ((parI s).gB), .int .i64 ((parI s).gC), .int .i64 ((parI s).gK)] [box b8 [.int .i64 ((parI s).gOp), .int .i64 ((parI s).gA), .int .i64 ((parI s).gB), .int .i64 ((parI s).gC), .int .i64 ((parI s).gK)] 23, box b5 [.int .i64 ((decR l).gOp), .int .i64 ((decR l).gA), .int .i64 ((decR l).gB), .int .i64 ((decR l).gC), .int .i64 ((decR l).gK)] 23, box b4 [.int .i64 ((decR l).gOp), .int .i64 ((decR l).gA), .int .i64 ((decR l).gB), .int .i64 ((decR l).gC), .int .i64 ((decR l).gK)] 23, rowOf (enc1 (Value.int .u8)) ra2 rc2 5 1 (encL i), box b3 [.int .i64 ((parI (textI i)).gOp), .int .i64 ((parI (textI i)).gA), .int .i64 ((parI (textI i)).gB), .int .i64 ((parI (textI i)).gC), .int .i64 ((parI (textI i)).gK)] 23, box b2 [.int .i64 ((decR (encX i)).gOp), .int .i64 ((decR (encX i)).gA), .int .i64 ((decR (encX i)).gB), .int .i64 ((decR (encX i)).gC), .int .i64 ((decR (encX i)).gK)] 23, rowOf (enc1 (Value.int .u8)) ra1 rc1 5 1 (encX i), box b1 [.int .i64 i.gOp, .int .i64 i.gA, .int .i64 i.gB, .int .i64 i.gC, .int .i64 i.gK] 23] (by kernel_rfl) rfl (by kernel_rfl) (by kernel_rfl) rfl ?_
     intro w30 S30
     refine J.run 5 K3_42 [(129, .string s), (19, .int .i64 (parIE s)), (18, .pointer (some ⟨b8, 0, none⟩)), (2, .string s)] w30 (by kernel_rfl) ?_
     refine J.callF 130 14 #[.string s] hb14 (by kernel_rfl) (rparsei_any s _ (by omega)) ?_
     rintro _ w31 ⟨rfl, T16⟩
     have S31 : Sep w [box b8 [.int .i64 ((parI s).gOp), .int .i64 ((parI s).gA), .int .i64 ((parI s).gB), .int .i64 ((parI s).gC), .int .i64 ((parI s).gK)] 23, box b5 [.int .i64 ((decR l).gOp), .int .i64 ((decR l).gA), .int .i64 ((decR l).gB), .int .i64 ((decR l).gC), .int .i64 ((decR l).gK)] 23, box b4 [.int .i64 ((decR l).gOp), .int .i64 ((decR l).gA), .int .i64 ((decR l).gB), .int .i64 ((decR l).gC), .int .i64 ((decR l).gK)] 23, rowOf (enc1 (Value.int .u8)) ra2 rc2 5 1 (encL i), box b3 [.int .i64 ((parI (textI i)).gOp), .int .i64 ((parI (textI i)).gA), .int .i64 ((parI (textI i)).gB), .int .i64 ((parI (textI i)).gC), .int .i64 ((parI (textI i)).gK)] 23, box b2 [.int .i64 ((decR (encX i)).gOp), .int .i64 ((decR (encX i)).gA), .int .i64 ((decR (encX i)).gB), .int .i64 ((decR (encX i)).gC), .int .i64 ((decR (encX i)).gK)] 23, rowOf (enc1 (Value.int .u8)) ra1 rc1 5 1 (encX i), box b1 [.int .i64 i.gOp, .int .i64 i.gA, .int .i64 i.gB, .int .i64 i.gC, .int .i64 i.gK] 23] w31 := S30.trans T16
     clear T16 S30
     refine J.run 3 K3_43 [(132, .int .i64 (parIE s)), (131, .agg #[.int .i64 ((parI s).gOp), .int .i64 ((parI s).gA), .int .i64 ((parI s).gB), .int .i64 ((parI s).gC), .int .i64 ((parI s).gK)]), (19, .int .i64 (parIE s)), (18, .pointer (some ⟨b8, 0, none⟩)), (2, .string s)] w31 (by kernel_rfl) ?_
     refine J.new S31 20 [.int .i64 0, .int .i64 0, .int .i64 0, .int .i64 0, .int .i64 0] 23 (by kernel_rfl) ?_
     intro b9 w32 S32
     refine J.stBox S32 0 23 0 (.agg #[.int .i64 ((parI s).gOp), .int .i64 ((parI s).gA), .int .i64 ((parI s).gB), .int .i64 ((parI s).gC), .int .i64 ((parI s).gK)]) [.int .i64 ((parI s).gOp), .int .i64 ((parI s).gA), .int .i64 ((parI s).gB), .int .i64 ((parI s).gC), .int .i64 ((parI s).gK)] [box b9 [.int .i64 ((parI s).gOp), .int .i64 ((parI s).gA), .int .i64 ((parI s).gB), .int .i64 ((parI s).gC), .int .i64 ((parI s).gK)] 23, box b8 [.int .i64 ((parI s).gOp), .int .i64 ((parI s).gA), .int .i64 ((parI s).gB), .int .i64 ((parI s).gC), .int .i64 ((parI s).gK)] 23, box b5 [.int .i64 ((decR l).gOp), .int .i64 ((decR l).gA), .int .i64 ((decR l).gB), .int .i64 ((decR l).gC), .int .i64 ((decR l).gK)] 23, box b4 [.int .i64 ((decR l).gOp), .int .i64 ((decR l).gA), .int .i64 ((decR l).gB), .int .i64 ((decR l).gC), .int .i64 ((decR l).gK)] 23, rowOf (enc1 (Value.int .u8)) ra2 rc2 5 1 (encL i), box b3 [.int .i64 ((parI (textI i)).gOp), .int .i64 ((parI (textI i)).gA), .int .i64 ((parI (textI i)).gB), .int .i64 ((parI (textI i)).gC), .int .i64 ((parI (textI i)).gK)] 23, box b2 [.int .i64 ((decR (encX i)).gOp), .int .i64 ((decR (encX i)).gA), .int .i64 ((decR (encX i)).gB), .int .i64 ((decR (encX i)).gC), .int .i64 ((decR (encX i)).gK)] 23, rowOf (enc1 (Value.int .u8)) ra1 rc1 5 1 (encX i), box b1 [.int .i64 i.gOp, .int .i64 i.gA, .int .i64 i.gB, .int .i64 i.gC, .int .i64 i.gK] 23] (by kernel_rfl) rfl (by kernel_rfl) (by kernel_rfl) rfl ?_
     intro w33 S33
     refine J.run 4 K3_44 [(21, .int .i64 (parIE s)), (20, .pointer (some ⟨b9, 0, none⟩)), (19, .int .i64 (parIE s)), (18, .pointer (some ⟨b8, 0, none⟩)), (2, .string s)] w33 (by kernel_rfl) ?_
     refine J.ok (OK.ldBox S33 1 133 23 0 (.agg #[.int .i64 ((parI s).gOp), .int .i64 ((parI s).gA), .int .i64 ((parI s).gB), .int .i64 ((parI s).gC), .int .i64 ((parI s).gK)]) (by kernel_rfl) rfl (by kernel_rfl)) ?_
     refine J.ok (OK.ldBox S33 0 134 23 0 (.agg #[.int .i64 ((parI s).gOp), .int .i64 ((parI s).gA), .int .i64 ((parI s).gB), .int .i64 ((parI s).gC), .int .i64 ((parI s).gK)]) (by kernel_rfl) rfl (by kernel_rfl)) ?_
     refine J.ok (OK.eqS 135 true 23 #[.int .i64 ((parI s).gOp), .int .i64 ((parI s).gA), .int .i64 ((parI s).gB), .int .i64 ((parI s).gC), .int .i64 ((parI s).gK)] #[.int .i64 ((parI s).gOp), .int .i64 ((parI s).gA), .int .i64 ((parI s).gB), .int .i64 ((parI s).gC), .int .i64 ((parI s).gK)] ((((parI s).gOp) == ((parI s).gOp)) && ((((parI s).gA) == ((parI s).gA)) && ((((parI s).gB) == ((parI s).gB)) && ((((parI s).gC) == ((parI s).gC)) && ((((parI s).gK) == ((parI s).gK)) && true))))) (by kernel_rfl) (by kernel_rfl) (by kernel_rfl) true (by simp)) ?_
     refine J.run 4 K3_45 [(139, .bool ((parIE s) == (parIE s))), (136, .bool true), (19, .int .i64 (parIE s)), (18, .pointer (some ⟨b8, 0, none⟩)), (2, .string s)] w33 (by kernel_rfl) ?_
     refine J.head (.bool true) (congrArg Value.bool (by simp)) ?_
     refine J.run 5 K3_46 [(144, .bool ((parIE s) != 0)), (141, .bool true), (18, .pointer (some ⟨b8, 0, none⟩)), (2, .string s)] w33 (by kernel_rfl) ?_
     by_cases fk23 : (parIE s) = 0
     ·skip
      refine J.head (.bool false) (congrArg Value.bool (bne_eq_false_iff_eq.2 fk23)) ?_
      refine J.ok (OK.ldBox S33 1 145 23 0 (.agg #[.int .i64 ((parI s).gOp), .int .i64 ((parI s).gA), .int .i64 ((parI s).gB), .int .i64 ((parI s).gC), .int .i64 ((parI s).gK)]) (by kernel_rfl) rfl (by kernel_rfl)) ?_
      refine J.callF 146 6 #[.agg #[.int .i64 ((parI s).gOp), .int .i64 ((parI s).gA), .int .i64 ((parI s).gB), .int .i64 ((parI s).gC), .int .i64 ((parI s).gK)]] hb6 (by kernel_rfl) (mtext_any (parI s) _ (insQ_sep hpi S33) (tabW_sep hW S33)) ?_
      rintro _ w34 ⟨rfl, T17⟩
      have S34 : Sep w [box b9 [.int .i64 ((parI s).gOp), .int .i64 ((parI s).gA), .int .i64 ((parI s).gB), .int .i64 ((parI s).gC), .int .i64 ((parI s).gK)] 23, box b8 [.int .i64 ((parI s).gOp), .int .i64 ((parI s).gA), .int .i64 ((parI s).gB), .int .i64 ((parI s).gC), .int .i64 ((parI s).gK)] 23, box b5 [.int .i64 ((decR l).gOp), .int .i64 ((decR l).gA), .int .i64 ((decR l).gB), .int .i64 ((decR l).gC), .int .i64 ((decR l).gK)] 23, box b4 [.int .i64 ((decR l).gOp), .int .i64 ((decR l).gA), .int .i64 ((decR l).gB), .int .i64 ((decR l).gC), .int .i64 ((decR l).gK)] 23, rowOf (enc1 (Value.int .u8)) ra2 rc2 5 1 (encL i), box b3 [.int .i64 ((parI (textI i)).gOp), .int .i64 ((parI (textI i)).gA), .int .i64 ((parI (textI i)).gB), .int .i64 ((parI (textI i)).gC), .int .i64 ((parI (textI i)).gK)] 23, box b2 [.int .i64 ((decR (encX i)).gOp), .int .i64 ((decR (encX i)).gA), .int .i64 ((decR (encX i)).gB), .int .i64 ((decR (encX i)).gC), .int .i64 ((decR (encX i)).gK)] 23, rowOf (enc1 (Value.int .u8)) ra1 rc1 5 1 (encX i), box b1 [.int .i64 i.gOp, .int .i64 i.gA, .int .i64 i.gB, .int .i64 i.gC, .int .i64 i.gK] 23] w34 := S33.trans T17
      clear T17 S33
      refine J.run 6 K3_47 [(6, .bool ((textI (parI s)).toList == s.toList))] w34 (by kernel_rfl) ?_
      refine J.ret Tryd.f3 [.bool ((textI (parI s)).toList == s.toList)] Tryd.func3 ⟨by kernel_rfl, trivial⟩ ?_
      refine hR _ _ ?_
      have fk24 : ((textI (parI s)).toList == s.toList) = true := parI_text fk23
      exact ⟨congrArg Value.bool fk24, S34.nil⟩
     ·skip
      refine J.head (.bool true) (congrArg Value.bool (bne_iff_ne.2 fk23)) ?_
      refine J.run 8 K3_48 [(6, .bool true)] w33 (by kernel_rfl) ?_
      refine J.ret Tryd.f3 [.bool true] Tryd.func3 ⟨by kernel_rfl, trivial⟩ ?_
      refine hR _ _ ?_
      exact ⟨rfl, S33.nil⟩
   ·skip
    refine J.head (.bool true) (congrArg Value.bool (by rw [fk3]; rfl)) ?_
    refine J.run 6 K3_49 [(44, .bool ((encE i) != 1)), (9, .string (textI i)), (7, .slice ra1 ((encX i).length) rc1), (1, .slice a n c), (2, .string s)] w5 (by kernel_rfl) ?_
    have fk26 : (encE i) = 1 := (encX_no fk3).2
    refine J.head (.bool false) (congrArg Value.bool (bne_eq_false_iff_eq.2 fk26)) ?_
    refine J.run 5 K3_50 [(49, .bool (((encX i).length : Int) != 0)), (9, .string (textI i)), (1, .slice a n c), (2, .string s)] w5 (by kernel_rfl) ?_
    have fk28 : ((encX i).length : Int) = 0 := by rw [(encX_no fk3).1]; rfl
    refine J.head (.bool false) (congrArg Value.bool (bne_eq_false_iff_eq.2 fk28)) ?_
    refine J.run 2 K3_51 [(51, .bool (!((textI i).toList == (⟨#[]⟩ : ByteArray).toList))), (49, .bool false), (1, .slice a n c), (2, .string s)] w5 (by kernel_rfl) ?_
    refine J.head (.bool (((textI i).size : Int) != 0)) (congrArg Value.bool (beq_nil_neq _)) ?_
    refine J.run 2 K3_52 [(52, .bool (((textI i).size : Int) != 0)), (1, .slice a n c), (2, .string s)] w5 (by kernel_rfl) ?_
    have fk30 : ((textI i).size : Int) = 0 := by rw [textI_no fk3]; rfl
    refine J.head (.bool false) (congrArg Value.bool (bne_eq_false_iff_eq.2 fk30)) ?_
    refine J.run 5 K3_53 [(97, .slice a n c), (1, .slice a n c), (2, .string s)] w5 (by kernel_rfl) ?_
    refine J.callF 98 8 #[.slice a n c] hb8 (by kernel_rfl) (decode_any a n c l _ (hI.sep S5) hq (hcap)) ?_
    rintro _ w35 ⟨rfl, T18⟩
    have S35 : Sep w [rowOf (enc1 (Value.int .u8)) ra1 rc1 5 1 (encX i), box b1 [.int .i64 i.gOp, .int .i64 i.gA, .int .i64 i.gB, .int .i64 i.gC, .int .i64 i.gK] 23] w35 := S5.trans T18
    clear T18 S5
    refine J.run 3 K3_54 [(100, .int .i64 (decE l)), (99, .agg #[.int .i64 ((decR l).gOp), .int .i64 ((decR l).gA), .int .i64 ((decR l).gB), .int .i64 ((decR l).gC), .int .i64 ((decR l).gK)]), (1, .slice a n c), (2, .string s)] w35 (by kernel_rfl) ?_
    refine J.new S35 14 [.int .i64 0, .int .i64 0, .int .i64 0, .int .i64 0, .int .i64 0] 23 (by kernel_rfl) ?_
    intro b10 w36 S36
    refine J.stBox S36 0 23 0 (.agg #[.int .i64 ((decR l).gOp), .int .i64 ((decR l).gA), .int .i64 ((decR l).gB), .int .i64 ((decR l).gC), .int .i64 ((decR l).gK)]) [.int .i64 ((decR l).gOp), .int .i64 ((decR l).gA), .int .i64 ((decR l).gB), .int .i64 ((decR l).gC), .int .i64 ((decR l).gK)] [box b10 [.int .i64 ((decR l).gOp), .int .i64 ((decR l).gA), .int .i64 ((decR l).gB), .int .i64 ((decR l).gC), .int .i64 ((decR l).gK)] 23, rowOf (enc1 (Value.int .u8)) ra1 rc1 5 1 (encX i), box b1 [.int .i64 i.gOp, .int .i64 i.gA, .int .i64 i.gB, .int .i64 i.gC, .int .i64 i.gK] 23] (by kernel_rfl) rfl (by kernel_rfl) (by kernel_rfl) rfl ?_
    intro w37 S37
    refine J.run 5 K3_55 [(102, .slice a n c), (15, .int .i64 (decE l)), (14, .pointer (some ⟨b10, 0, none⟩)), (2, .string s)] w37 (by kernel_rfl) ?_
    refine J.callF 103 13 #[.slice a n c] hb13 (by kernel_rfl) (rdecode_any a n c l _ (hI.sep S37) hq (hcap)) ?_
    rintro _ w38 ⟨rfl, T19⟩
    have S38 : Sep w [box b10 [.int .i64 ((decR l).gOp), .int .i64 ((decR l).gA), .int .i64 ((decR l).gB), .int .i64 ((decR l).gC), .int .i64 ((decR l).gK)] 23, rowOf (enc1 (Value.int .u8)) ra1 rc1 5 1 (encX i), box b1 [.int .i64 i.gOp, .int .i64 i.gA, .int .i64 i.gB, .int .i64 i.gC, .int .i64 i.gK] 23] w38 := S37.trans T19
    clear T19 S37
    refine J.run 3 K3_56 [(105, .bool (decB l)), (104, .agg #[.int .i64 ((decR l).gOp), .int .i64 ((decR l).gA), .int .i64 ((decR l).gB), .int .i64 ((decR l).gC), .int .i64 ((decR l).gK)]), (15, .int .i64 (decE l)), (14, .pointer (some ⟨b10, 0, none⟩)), (2, .string s)] w38 (by kernel_rfl) ?_
    refine J.new S38 16 [.int .i64 0, .int .i64 0, .int .i64 0, .int .i64 0, .int .i64 0] 23 (by kernel_rfl) ?_
    intro b11 w39 S39
    refine J.stBox S39 0 23 0 (.agg #[.int .i64 ((decR l).gOp), .int .i64 ((decR l).gA), .int .i64 ((decR l).gB), .int .i64 ((decR l).gC), .int .i64 ((decR l).gK)]) [.int .i64 ((decR l).gOp), .int .i64 ((decR l).gA), .int .i64 ((decR l).gB), .int .i64 ((decR l).gC), .int .i64 ((decR l).gK)] [box b11 [.int .i64 ((decR l).gOp), .int .i64 ((decR l).gA), .int .i64 ((decR l).gB), .int .i64 ((decR l).gC), .int .i64 ((decR l).gK)] 23, box b10 [.int .i64 ((decR l).gOp), .int .i64 ((decR l).gA), .int .i64 ((decR l).gB), .int .i64 ((decR l).gC), .int .i64 ((decR l).gK)] 23, rowOf (enc1 (Value.int .u8)) ra1 rc1 5 1 (encX i), box b1 [.int .i64 i.gOp, .int .i64 i.gA, .int .i64 i.gB, .int .i64 i.gC, .int .i64 i.gK] 23] (by kernel_rfl) rfl (by kernel_rfl) (by kernel_rfl) rfl ?_
    intro w40 S40
    refine J.run 5 K3_57 [(17, .bool (decB l)), (16, .pointer (some ⟨b11, 0, none⟩)), (15, .int .i64 (decE l)), (14, .pointer (some ⟨b10, 0, none⟩)), (2, .string s)] w40 (by kernel_rfl) ?_
    refine J.ok (OK.ldBox S40 1 106 23 0 (.agg #[.int .i64 ((decR l).gOp), .int .i64 ((decR l).gA), .int .i64 ((decR l).gB), .int .i64 ((decR l).gC), .int .i64 ((decR l).gK)]) (by kernel_rfl) rfl (by kernel_rfl)) ?_
    refine J.ok (OK.ldBox S40 0 107 23 0 (.agg #[.int .i64 ((decR l).gOp), .int .i64 ((decR l).gA), .int .i64 ((decR l).gB), .int .i64 ((decR l).gC), .int .i64 ((decR l).gK)]) (by kernel_rfl) rfl (by kernel_rfl)) ?_
    refine J.ok (OK.eqS 108 false 23 #[.int .i64 ((decR l).gOp), .int .i64 ((decR l).gA), .int .i64 ((decR l).gB), .int .i64 ((decR l).gC), .int .i64 ((decR l).gK)] #[.int .i64 ((decR l).gOp), .int .i64 ((decR l).gA), .int .i64 ((decR l).gB), .int .i64 ((decR l).gC), .int .i64 ((decR l).gK)] ((((decR l).gOp) == ((decR l).gOp)) && ((((decR l).gA) == ((decR l).gA)) && ((((decR l).gB) == ((decR l).gB)) && ((((decR l).gC) == ((decR l).gC)) && ((((decR l).gK) == ((decR l).gK)) && true))))) (by kernel_rfl) (by kernel_rfl) (by kernel_rfl) false (by simp)) ?_
    refine J.run 7 K3_58 [(115, .bool (!((decB l) == ((decE l) == 0)))), (17, .bool (decB l)), (15, .int .i64 (decE l)), (2, .string s)] w40 (by kernel_rfl) ?_
    have fk32 : (!((decB l) == ((decE l) == 0))) = false := by rw [dec_flag]; rfl
    refine J.head (.bool false) (congrArg Value.bool fk32) ?_
    refine J.run 3 K3_59 [(118, .bool (!(decB l))), (115, .bool false), (15, .int .i64 (decE l)), (2, .string s)] w40 (by kernel_rfl) ?_
    rcases Bool.eq_false_or_eq_true (decB l) with fk33 | fk33
    ·skip
     refine J.head (.bool false) (congrArg Value.bool (by rw [fk33]; rfl)) ?_
     refine J.run 10 K3_60 [(124, .string s), (2, .string s)] w40 (by kernel_rfl) ?_
     refine J.callF 125 9 #[.string s] hb9 (by kernel_rfl) (mparse_any s _ (by omega) (tabW_sep hW S40)) ?_
     rintro _ w41 ⟨rfl, T20⟩
     have S41 : Sep w [box b11 [.int .i64 ((decR l).gOp), .int .i64 ((decR l).gA), .int .i64 ((decR l).gB), .int .i64 ((decR l).gC), .int .i64 ((decR l).gK)] 23, box b10 [.int .i64 ((decR l).gOp), .int .i64 ((decR l).gA), .int .i64 ((decR l).gB), .int .i64 ((decR l).gC), .int .i64 ((decR l).gK)] 23, rowOf (enc1 (Value.int .u8)) ra1 rc1 5 1 (encX i), box b1 [.int .i64 i.gOp, .int .i64 i.gA, .int .i64 i.gB, .int .i64 i.gC, .int .i64 i.gK] 23] w41 := S40.trans T20
     clear T20 S40
     refine J.run 3 K3_61 [(127, .int .i64 (parIE s)), (126, .agg #[.int .i64 ((parI s).gOp), .int .i64 ((parI s).gA), .int .i64 ((parI s).gB), .int .i64 ((parI s).gC), .int .i64 ((parI s).gK)]), (2, .string s)] w41 (by kernel_rfl) ?_
     refine J.new S41 18 [.int .i64 0, .int .i64 0, .int .i64 0, .int .i64 0, .int .i64 0] 23 (by kernel_rfl) ?_
     intro b12 w42 S42
     refine J.stBox S42 0 23 0 (.agg #[.int .i64 ((parI s).gOp), .int .i64 ((parI s).gA), .int .i64 ((parI s).gB), .int .i64 ((parI s).gC), .int .i64 ((parI s).gK)]) [.int .i64 ((parI s).gOp), .int .i64 ((parI s).gA), .int .i64 ((parI s).gB), .int .i64 ((parI s).gC), .int .i64 ((parI s).gK)] [box b12 [.int .i64 ((parI s).gOp), .int .i64 ((parI s).gA), .int .i64 ((parI s).gB), .int .i64 ((parI s).gC), .int .i64 ((parI s).gK)] 23, box b11 [.int .i64 ((decR l).gOp), .int .i64 ((decR l).gA), .int .i64 ((decR l).gB), .int .i64 ((decR l).gC), .int .i64 ((decR l).gK)] 23, box b10 [.int .i64 ((decR l).gOp), .int .i64 ((decR l).gA), .int .i64 ((decR l).gB), .int .i64 ((decR l).gC), .int .i64 ((decR l).gK)] 23, rowOf (enc1 (Value.int .u8)) ra1 rc1 5 1 (encX i), box b1 [.int .i64 i.gOp, .int .i64 i.gA, .int .i64 i.gB, .int .i64 i.gC, .int .i64 i.gK] 23] (by kernel_rfl) rfl (by kernel_rfl) (by kernel_rfl) rfl ?_
     intro w43 S43
     refine J.run 5 K3_62 [(129, .string s), (19, .int .i64 (parIE s)), (18, .pointer (some ⟨b12, 0, none⟩)), (2, .string s)] w43 (by kernel_rfl) ?_
     refine J.callF 130 14 #[.string s] hb14 (by kernel_rfl) (rparsei_any s _ (by omega)) ?_
     rintro _ w44 ⟨rfl, T21⟩
     have S44 : Sep w [box b12 [.int .i64 ((parI s).gOp), .int .i64 ((parI s).gA), .int .i64 ((parI s).gB), .int .i64 ((parI s).gC), .int .i64 ((parI s).gK)] 23, box b11 [.int .i64 ((decR l).gOp), .int .i64 ((decR l).gA), .int .i64 ((decR l).gB), .int .i64 ((decR l).gC), .int .i64 ((decR l).gK)] 23, box b10 [.int .i64 ((decR l).gOp), .int .i64 ((decR l).gA), .int .i64 ((decR l).gB), .int .i64 ((decR l).gC), .int .i64 ((decR l).gK)] 23, rowOf (enc1 (Value.int .u8)) ra1 rc1 5 1 (encX i), box b1 [.int .i64 i.gOp, .int .i64 i.gA, .int .i64 i.gB, .int .i64 i.gC, .int .i64 i.gK] 23] w44 := S43.trans T21
     clear T21 S43
     refine J.run 3 K3_63 [(132, .int .i64 (parIE s)), (131, .agg #[.int .i64 ((parI s).gOp), .int .i64 ((parI s).gA), .int .i64 ((parI s).gB), .int .i64 ((parI s).gC), .int .i64 ((parI s).gK)]), (19, .int .i64 (parIE s)), (18, .pointer (some ⟨b12, 0, none⟩)), (2, .string s)] w44 (by kernel_rfl) ?_
     refine J.new S44 20 [.int .i64 0, .int .i64 0, .int .i64 0, .int .i64 0, .int .i64 0] 23 (by kernel_rfl) ?_
     intro b13 w45 S45
     refine J.stBox S45 0 23 0 (.agg #[.int .i64 ((parI s).gOp), .int .i64 ((parI s).gA), .int .i64 ((parI s).gB), .int .i64 ((parI s).gC), .int .i64 ((parI s).gK)]) [.int .i64 ((parI s).gOp), .int .i64 ((parI s).gA), .int .i64 ((parI s).gB), .int .i64 ((parI s).gC), .int .i64 ((parI s).gK)] [box b13 [.int .i64 ((parI s).gOp), .int .i64 ((parI s).gA), .int .i64 ((parI s).gB), .int .i64 ((parI s).gC), .int .i64 ((parI s).gK)] 23, box b12 [.int .i64 ((parI s).gOp), .int .i64 ((parI s).gA), .int .i64 ((parI s).gB), .int .i64 ((parI s).gC), .int .i64 ((parI s).gK)] 23, box b11 [.int .i64 ((decR l).gOp), .int .i64 ((decR l).gA), .int .i64 ((decR l).gB), .int .i64 ((decR l).gC), .int .i64 ((decR l).gK)] 23, box b10 [.int .i64 ((decR l).gOp), .int .i64 ((decR l).gA), .int .i64 ((decR l).gB), .int .i64 ((decR l).gC), .int .i64 ((decR l).gK)] 23, rowOf (enc1 (Value.int .u8)) ra1 rc1 5 1 (encX i), box b1 [.int .i64 i.gOp, .int .i64 i.gA, .int .i64 i.gB, .int .i64 i.gC, .int .i64 i.gK] 23] (by kernel_rfl) rfl (by kernel_rfl) (by kernel_rfl) rfl ?_
     intro w46 S46
     refine J.run 4 K3_64 [(21, .int .i64 (parIE s)), (20, .pointer (some ⟨b13, 0, none⟩)), (19, .int .i64 (parIE s)), (18, .pointer (some ⟨b12, 0, none⟩)), (2, .string s)] w46 (by kernel_rfl) ?_
     refine J.ok (OK.ldBox S46 1 133 23 0 (.agg #[.int .i64 ((parI s).gOp), .int .i64 ((parI s).gA), .int .i64 ((parI s).gB), .int .i64 ((parI s).gC), .int .i64 ((parI s).gK)]) (by kernel_rfl) rfl (by kernel_rfl)) ?_
     refine J.ok (OK.ldBox S46 0 134 23 0 (.agg #[.int .i64 ((parI s).gOp), .int .i64 ((parI s).gA), .int .i64 ((parI s).gB), .int .i64 ((parI s).gC), .int .i64 ((parI s).gK)]) (by kernel_rfl) rfl (by kernel_rfl)) ?_
     refine J.ok (OK.eqS 135 true 23 #[.int .i64 ((parI s).gOp), .int .i64 ((parI s).gA), .int .i64 ((parI s).gB), .int .i64 ((parI s).gC), .int .i64 ((parI s).gK)] #[.int .i64 ((parI s).gOp), .int .i64 ((parI s).gA), .int .i64 ((parI s).gB), .int .i64 ((parI s).gC), .int .i64 ((parI s).gK)] ((((parI s).gOp) == ((parI s).gOp)) && ((((parI s).gA) == ((parI s).gA)) && ((((parI s).gB) == ((parI s).gB)) && ((((parI s).gC) == ((parI s).gC)) && ((((parI s).gK) == ((parI s).gK)) && true))))) (by kernel_rfl) (by kernel_rfl) (by kernel_rfl) true (by simp)) ?_
     refine J.run 4 K3_65 [(139, .bool ((parIE s) == (parIE s))), (136, .bool true), (19, .int .i64 (parIE s)), (18, .pointer (some ⟨b12, 0, none⟩)), (2, .string s)] w46 (by kernel_rfl) ?_
     refine J.head (.bool true) (congrArg Value.bool (by simp)) ?_
     refine J.run 5 K3_66 [(144, .bool ((parIE s) != 0)), (141, .bool true), (18, .pointer (some ⟨b12, 0, none⟩)), (2, .string s)] w46 (by kernel_rfl) ?_
     by_cases fk34 : (parIE s) = 0
     ·skip
      refine J.head (.bool false) (congrArg Value.bool (bne_eq_false_iff_eq.2 fk34)) ?_
      refine J.ok (OK.ldBox S46 1 145 23 0 (.agg #[.int .i64 ((parI s).gOp), .int .i64 ((parI s).gA), .int .i64 ((parI s).gB), .int .i64 ((parI s).gC), .int .i64 ((parI s).gK)]) (by kernel_rfl) rfl (by kernel_rfl)) ?_
      refine J.callF 146 6 #[.agg #[.int .i64 ((parI s).gOp), .int .i64 ((parI s).gA), .int .i64 ((parI s).gB), .int .i64 ((parI s).gC), .int .i64 ((parI s).gK)]] hb6 (by kernel_rfl) (mtext_any (parI s) _ (insQ_sep hpi S46) (tabW_sep hW S46)) ?_
      rintro _ w47 ⟨rfl, T22⟩
      have S47 : Sep w [box b13 [.int .i64 ((parI s).gOp), .int .i64 ((parI s).gA), .int .i64 ((parI s).gB), .int .i64 ((parI s).gC), .int .i64 ((parI s).gK)] 23, box b12 [.int .i64 ((parI s).gOp), .int .i64 ((parI s).gA), .int .i64 ((parI s).gB), .int .i64 ((parI s).gC), .int .i64 ((parI s).gK)] 23, box b11 [.int .i64 ((decR l).gOp), .int .i64 ((decR l).gA), .int .i64 ((decR l).gB), .int .i64 ((decR l).gC), .int .i64 ((decR l).gK)] 23, box b10 [.int .i64 ((decR l).gOp), .int .i64 ((decR l).gA), .int .i64 ((decR l).gB), .int .i64 ((decR l).gC), .int .i64 ((decR l).gK)] 23, rowOf (enc1 (Value.int .u8)) ra1 rc1 5 1 (encX i), box b1 [.int .i64 i.gOp, .int .i64 i.gA, .int .i64 i.gB, .int .i64 i.gC, .int .i64 i.gK] 23] w47 := S46.trans T22
      clear T22 S46
      refine J.run 6 K3_67 [(6, .bool ((textI (parI s)).toList == s.toList))] w47 (by kernel_rfl) ?_
      refine J.ret Tryd.f3 [.bool ((textI (parI s)).toList == s.toList)] Tryd.func3 ⟨by kernel_rfl, trivial⟩ ?_
      refine hR _ _ ?_
      have fk35 : ((textI (parI s)).toList == s.toList) = true := parI_text fk34
      exact ⟨congrArg Value.bool fk35, S47.nil⟩
     ·skip
      refine J.head (.bool true) (congrArg Value.bool (bne_iff_ne.2 fk34)) ?_
      refine J.run 8 K3_68 [(6, .bool true)] w46 (by kernel_rfl) ?_
      refine J.ret Tryd.f3 [.bool true] Tryd.func3 ⟨by kernel_rfl, trivial⟩ ?_
      refine hR _ _ ?_
      exact ⟨rfl, S46.nil⟩
    ·skip
     refine J.head (.bool true) (congrArg Value.bool (by rw [fk33]; rfl)) ?_
     refine J.run 5 K3_69 [(122, .bool ((decE l) != 3)), (2, .string s)] w40 (by kernel_rfl) ?_
     have fk37 : (decE l) = 3 := dec_three fk33
     refine J.head (.bool false) (congrArg Value.bool (bne_eq_false_iff_eq.2 fk37)) ?_
     refine J.run 5 K3_70 [(124, .string s), (2, .string s)] w40 (by kernel_rfl) ?_
     refine J.callF 125 9 #[.string s] hb9 (by kernel_rfl) (mparse_any s _ (by omega) (tabW_sep hW S40)) ?_
     rintro _ w48 ⟨rfl, T23⟩
     have S48 : Sep w [box b11 [.int .i64 ((decR l).gOp), .int .i64 ((decR l).gA), .int .i64 ((decR l).gB), .int .i64 ((decR l).gC), .int .i64 ((decR l).gK)] 23, box b10 [.int .i64 ((decR l).gOp), .int .i64 ((decR l).gA), .int .i64 ((decR l).gB), .int .i64 ((decR l).gC), .int .i64 ((decR l).gK)] 23, rowOf (enc1 (Value.int .u8)) ra1 rc1 5 1 (encX i), box b1 [.int .i64 i.gOp, .int .i64 i.gA, .int .i64 i.gB, .int .i64 i.gC, .int .i64 i.gK] 23] w48 := S40.trans T23
     clear T23 S40
     refine J.run 3 K3_71 [(127, .int .i64 (parIE s)), (126, .agg #[.int .i64 ((parI s).gOp), .int .i64 ((parI s).gA), .int .i64 ((parI s).gB), .int .i64 ((parI s).gC), .int .i64 ((parI s).gK)]), (2, .string s)] w48 (by kernel_rfl) ?_
     refine J.new S48 18 [.int .i64 0, .int .i64 0, .int .i64 0, .int .i64 0, .int .i64 0] 23 (by kernel_rfl) ?_
     intro b14 w49 S49
     refine J.stBox S49 0 23 0 (.agg #[.int .i64 ((parI s).gOp), .int .i64 ((parI s).gA), .int .i64 ((parI s).gB), .int .i64 ((parI s).gC), .int .i64 ((parI s).gK)]) [.int .i64 ((parI s).gOp), .int .i64 ((parI s).gA), .int .i64 ((parI s).gB), .int .i64 ((parI s).gC), .int .i64 ((parI s).gK)] [box b14 [.int .i64 ((parI s).gOp), .int .i64 ((parI s).gA), .int .i64 ((parI s).gB), .int .i64 ((parI s).gC), .int .i64 ((parI s).gK)] 23, box b11 [.int .i64 ((decR l).gOp), .int .i64 ((decR l).gA), .int .i64 ((decR l).gB), .int .i64 ((decR l).gC), .int .i64 ((decR l).gK)] 23, box b10 [.int .i64 ((decR l).gOp), .int .i64 ((decR l).gA), .int .i64 ((decR l).gB), .int .i64 ((decR l).gC), .int .i64 ((decR l).gK)] 23, rowOf (enc1 (Value.int .u8)) ra1 rc1 5 1 (encX i), box b1 [.int .i64 i.gOp, .int .i64 i.gA, .int .i64 i.gB, .int .i64 i.gC, .int .i64 i.gK] 23] (by kernel_rfl) rfl (by kernel_rfl) (by kernel_rfl) rfl ?_
     intro w50 S50
     refine J.run 5 K3_72 [(129, .string s), (19, .int .i64 (parIE s)), (18, .pointer (some ⟨b14, 0, none⟩)), (2, .string s)] w50 (by kernel_rfl) ?_
     refine J.callF 130 14 #[.string s] hb14 (by kernel_rfl) (rparsei_any s _ (by omega)) ?_
     rintro _ w51 ⟨rfl, T24⟩
     have S51 : Sep w [box b14 [.int .i64 ((parI s).gOp), .int .i64 ((parI s).gA), .int .i64 ((parI s).gB), .int .i64 ((parI s).gC), .int .i64 ((parI s).gK)] 23, box b11 [.int .i64 ((decR l).gOp), .int .i64 ((decR l).gA), .int .i64 ((decR l).gB), .int .i64 ((decR l).gC), .int .i64 ((decR l).gK)] 23, box b10 [.int .i64 ((decR l).gOp), .int .i64 ((decR l).gA), .int .i64 ((decR l).gB), .int .i64 ((decR l).gC), .int .i64 ((decR l).gK)] 23, rowOf (enc1 (Value.int .u8)) ra1 rc1 5 1 (encX i), box b1 [.int .i64 i.gOp, .int .i64 i.gA, .int .i64 i.gB, .int .i64 i.gC, .int .i64 i.gK] 23] w51 := S50.trans T24
     clear T24 S50
     refine J.run 3 K3_73 [(132, .int .i64 (parIE s)), (131, .agg #[.int .i64 ((parI s).gOp), .int .i64 ((parI s).gA), .int .i64 ((parI s).gB), .int .i64 ((parI s).gC), .int .i64 ((parI s).gK)]), (19, .int .i64 (parIE s)), (18, .pointer (some ⟨b14, 0, none⟩)), (2, .string s)] w51 (by kernel_rfl) ?_
     refine J.new S51 20 [.int .i64 0, .int .i64 0, .int .i64 0, .int .i64 0, .int .i64 0] 23 (by kernel_rfl) ?_
     intro b15 w52 S52
     refine J.stBox S52 0 23 0 (.agg #[.int .i64 ((parI s).gOp), .int .i64 ((parI s).gA), .int .i64 ((parI s).gB), .int .i64 ((parI s).gC), .int .i64 ((parI s).gK)]) [.int .i64 ((parI s).gOp), .int .i64 ((parI s).gA), .int .i64 ((parI s).gB), .int .i64 ((parI s).gC), .int .i64 ((parI s).gK)] [box b15 [.int .i64 ((parI s).gOp), .int .i64 ((parI s).gA), .int .i64 ((parI s).gB), .int .i64 ((parI s).gC), .int .i64 ((parI s).gK)] 23, box b14 [.int .i64 ((parI s).gOp), .int .i64 ((parI s).gA), .int .i64 ((parI s).gB), .int .i64 ((parI s).gC), .int .i64 ((parI s).gK)] 23, box b11 [.int .i64 ((decR l).gOp), .int .i64 ((decR l).gA), .int .i64 ((decR l).gB), .int .i64 ((decR l).gC), .int .i64 ((decR l).gK)] 23, box b10 [.int .i64 ((decR l).gOp), .int .i64 ((decR l).gA), .int .i64 ((decR l).gB), .int .i64 ((decR l).gC), .int .i64 ((decR l).gK)] 23, rowOf (enc1 (Value.int .u8)) ra1 rc1 5 1 (encX i), box b1 [.int .i64 i.gOp, .int .i64 i.gA, .int .i64 i.gB, .int .i64 i.gC, .int .i64 i.gK] 23] (by kernel_rfl) rfl (by kernel_rfl) (by kernel_rfl) rfl ?_
     intro w53 S53
     refine J.run 4 K3_74 [(21, .int .i64 (parIE s)), (20, .pointer (some ⟨b15, 0, none⟩)), (19, .int .i64 (parIE s)), (18, .pointer (some ⟨b14, 0, none⟩)), (2, .string s)] w53 (by kernel_rfl) ?_
     refine J.ok (OK.ldBox S53 1 133 23 0 (.agg #[.int .i64 ((parI s).gOp), .int .i64 ((parI s).gA), .int .i64 ((parI s).gB), .int .i64 ((parI s).gC), .int .i64 ((parI s).gK)]) (by kernel_rfl) rfl (by kernel_rfl)) ?_
     refine J.ok (OK.ldBox S53 0 134 23 0 (.agg #[.int .i64 ((parI s).gOp), .int .i64 ((parI s).gA), .int .i64 ((parI s).gB), .int .i64 ((parI s).gC), .int .i64 ((parI s).gK)]) (by kernel_rfl) rfl (by kernel_rfl)) ?_
     refine J.ok (OK.eqS 135 true 23 #[.int .i64 ((parI s).gOp), .int .i64 ((parI s).gA), .int .i64 ((parI s).gB), .int .i64 ((parI s).gC), .int .i64 ((parI s).gK)] #[.int .i64 ((parI s).gOp), .int .i64 ((parI s).gA), .int .i64 ((parI s).gB), .int .i64 ((parI s).gC), .int .i64 ((parI s).gK)] ((((parI s).gOp) == ((parI s).gOp)) && ((((parI s).gA) == ((parI s).gA)) && ((((parI s).gB) == ((parI s).gB)) && ((((parI s).gC) == ((parI s).gC)) && ((((parI s).gK) == ((parI s).gK)) && true))))) (by kernel_rfl) (by kernel_rfl) (by kernel_rfl) true (by simp)) ?_
     refine J.run 4 K3_75 [(139, .bool ((parIE s) == (parIE s))), (136, .bool true), (19, .int .i64 (parIE s)), (18, .pointer (some ⟨b14, 0, none⟩)), (2, .string s)] w53 (by kernel_rfl) ?_
     refine J.head (.bool true) (congrArg Value.bool (by simp)) ?_
     refine J.run 5 K3_76 [(144, .bool ((parIE s) != 0)), (141, .bool true), (18, .pointer (some ⟨b14, 0, none⟩)), (2, .string s)] w53 (by kernel_rfl) ?_
     by_cases fk38 : (parIE s) = 0
     ·skip
      refine J.head (.bool false) (congrArg Value.bool (bne_eq_false_iff_eq.2 fk38)) ?_
      refine J.ok (OK.ldBox S53 1 145 23 0 (.agg #[.int .i64 ((parI s).gOp), .int .i64 ((parI s).gA), .int .i64 ((parI s).gB), .int .i64 ((parI s).gC), .int .i64 ((parI s).gK)]) (by kernel_rfl) rfl (by kernel_rfl)) ?_
      refine J.callF 146 6 #[.agg #[.int .i64 ((parI s).gOp), .int .i64 ((parI s).gA), .int .i64 ((parI s).gB), .int .i64 ((parI s).gC), .int .i64 ((parI s).gK)]] hb6 (by kernel_rfl) (mtext_any (parI s) _ (insQ_sep hpi S53) (tabW_sep hW S53)) ?_
      rintro _ w54 ⟨rfl, T25⟩
      have S54 : Sep w [box b15 [.int .i64 ((parI s).gOp), .int .i64 ((parI s).gA), .int .i64 ((parI s).gB), .int .i64 ((parI s).gC), .int .i64 ((parI s).gK)] 23, box b14 [.int .i64 ((parI s).gOp), .int .i64 ((parI s).gA), .int .i64 ((parI s).gB), .int .i64 ((parI s).gC), .int .i64 ((parI s).gK)] 23, box b11 [.int .i64 ((decR l).gOp), .int .i64 ((decR l).gA), .int .i64 ((decR l).gB), .int .i64 ((decR l).gC), .int .i64 ((decR l).gK)] 23, box b10 [.int .i64 ((decR l).gOp), .int .i64 ((decR l).gA), .int .i64 ((decR l).gB), .int .i64 ((decR l).gC), .int .i64 ((decR l).gK)] 23, rowOf (enc1 (Value.int .u8)) ra1 rc1 5 1 (encX i), box b1 [.int .i64 i.gOp, .int .i64 i.gA, .int .i64 i.gB, .int .i64 i.gC, .int .i64 i.gK] 23] w54 := S53.trans T25
      clear T25 S53
      refine J.run 6 K3_77 [(6, .bool ((textI (parI s)).toList == s.toList))] w54 (by kernel_rfl) ?_
      refine J.ret Tryd.f3 [.bool ((textI (parI s)).toList == s.toList)] Tryd.func3 ⟨by kernel_rfl, trivial⟩ ?_
      refine hR _ _ ?_
      have fk39 : ((textI (parI s)).toList == s.toList) = true := parI_text fk38
      exact ⟨congrArg Value.bool fk39, S54.nil⟩
     ·skip
      refine J.head (.bool true) (congrArg Value.bool (bne_iff_ne.2 fk38)) ?_
      refine J.run 8 K3_78 [(6, .bool true)] w53 (by kernel_rfl) ?_
      refine J.ret Tryd.f3 [.bool true] Tryd.func3 ⟨by kernel_rfl, trivial⟩ ?_
      refine hR _ _ ?_
      exact ⟨rfl, S53.nil⟩

end Go.Proofs.YthfpejhonhaggaaDoor
