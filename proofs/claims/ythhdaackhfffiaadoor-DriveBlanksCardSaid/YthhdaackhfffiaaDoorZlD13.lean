/- Walks of functions of this seat, printed by a program over the engine. Conditions: as each theorem says. -/
import Derived.Test.YthhdaackhfffiaaDoorZlD12
namespace Go.Proofs.YthhdaackhfffiaaDoor
open Go.Eng Go.RowKit
set_option linter.unusedSimpArgs false
set_option linter.unusedVariables false
abbrev kvD13_1 : List Value := [iv 0, iv 0, iv 0, iv 0, iv 0]
abbrev kvD13_2 : List Value := [.string ⟨#[97, 116]⟩, iv 0, iv 1099511627776]
abbrev kvD13_3 : List Value := [.string ⟨#[112, 101, 100, 97, 108]⟩, iv 0, iv 1000]
abbrev kvD13_4 : List Value := [.string ⟨#[108, 111, 97, 100]⟩, iv (-500), iv 2000]
abbrev kvD13_5 : List Value := [.string ⟨#[98, 114, 97, 107, 101]⟩, iv 0, iv 1000]
abbrev kvD13_6 : List Value := [.string ⟨#[103, 101, 97, 114]⟩, iv 0, iv 6]
abbrev kvD13_7 : Array Value := #[.string ⟨#[97, 116]⟩, iv 0, iv 1099511627776, .string ⟨#[112, 101, 100, 97, 108]⟩, iv 0, iv 1000, .string ⟨#[98, 114, 97, 107, 101]⟩, iv 0, iv 1000, .string ⟨#[103, 101, 97, 114]⟩, iv 0, iv 6, .string ⟨#[108, 111, 97, 100]⟩, iv (-500), iv 2000]
theorem RSok.up {st : Option (Int × Int)} {e a b j j2 : Int} (h : RSok st e a b j) (he : e = 0) (hj : j2 = j + 1) : RSok st e (a + 1) b j2 := by
  cases st with
  | some x => exact absurd he h.2.1
  | none => exact ⟨h.1, by rw [hj, h.2.1], h.2.2⟩
theorem time_eq {acc : List Dr} (h : acc.length ≠ 0 → 0 ≤ (acc.getD ((acc.length : Int) - 1).toNat dr0).gAt) (x : Int) : timeB (bfD acc) x = if acc.length = 0 then decide (x ≠ 0) else decide (x ≤ (acc.getD ((acc.length : Int) - 1).toNat dr0).gAt) := by
  unfold timeB bfD
  by_cases h0 : acc.length = 0
  · rw [if_pos h0, if_pos h0, if_pos (by decide)]
  · have := h h0
    rw [show ((acc.length : Int) - 1).toNat = acc.length - 1 by omega] at *
    rw [if_neg h0, if_neg h0, if_neg (by omega)]
theorem lineV_eq {L : List Tk} {x0 x1 x2 x3 x4 : Int} (h0 : x0 = nm L 1) (h1 : x1 = nm L 3) (h2 : x2 = nm L 5) (h3 : x3 = nm L 7) (h4 : x4 = nm L 9) : (⟨x0, x1, x2, x3, x4⟩ : Dr) = lineV L := by subst h0 h1 h2 h3 h4; rfl
theorem bneq_dec (a b : Int) : (a != b) = decide (a ≠ b) := by
  rw [Bool.eq_iff_iff, bne_iff_ne, decide_eq_true_iff]

theorem hb51 : HasBody Tryd.prog 51 := fun _ _ => by kernel_rfl
noncomputable def K51_0 : List Item := adv 2 [] (bodyOf Tryd.f51)
noncomputable def K51_1 : List Item := adv 3 [] (popK (popK K51_0))
noncomputable def K51_2 : List Item := adv 1 [] (popK (popK (popK (popK (popK (popK (popK (popK (popK (popK K51_1))))))))))
noncomputable def K51_3 : List Item := adv 1 [] (popK K51_2)
set_option maxRecDepth 20000 in
set_option maxHeartbeats 20000000 in
theorem order_any (a0 a1 a2 a3 a4 : Int) (w : World) : Ret Tryd.prog 51 #[.agg #[iv a0, iv a1, iv a2, iv a3, iv a4]] w (fun v w' => v = .agg #[iv a0, iv a1, iv a2, iv a3, iv a4] ∧ Sep w [] w') := by
 have S0 := Sep.refl w
 refine Ret.named fun R hR => ?_
 refine Ret.of_J (N := 14) [(0, .agg #[iv a0, iv a1, iv a2, iv a3, iv a4])] Tryd.func51 rfl rfl (Nat.le_of_ble_eq_true (by kernel_rfl)) (by kernel_rfl) ?_
 refine J.run 2 K51_0 [(0, .agg #[iv a0, iv a1, iv a2, iv a3, iv a4])] w (by kernel_rfl) ?_
 refine J.new S0 1 [iv a0, iv a1, iv a2, iv a3, iv a4] 48 (by kernel_rfl) ?_
 intro b1 w1 S1
 refine J.new S1 2 kvD13_1 27 (by kernel_rfl) ?_
 intro b2 w2 S2
 refine J.run 3 K51_1 [(2, .pointer (some ⟨b2, 0, none⟩)), (1, .pointer (some ⟨b1, 0, none⟩))] w2 (by kernel_rfl) ?_
 refine J.ok (OK.indexP 3 48 5 1 b1 0 0 0 (by kernel_rfl) (by kernel_rfl) (by omega) (by omega)) ?_
 refine J.head (.pointer (some ⟨b1, 0, none⟩)) (by first | rfl | (rw [Nat.zero_add, Nat.mul_one])) ?_
 refine J.ok (OK.ldBox S2 1 4 3 0 (iv a0) (by kernel_rfl) rfl (by kernel_rfl)) ?_
 refine J.ok (OK.indexP 5 48 5 1 b1 0 1 1 (by kernel_rfl) (by kernel_rfl) (by omega) (by omega)) ?_
 refine J.head (.pointer (some ⟨b1, 1, none⟩)) (by first | rfl | (rw [Nat.zero_add, Nat.mul_one])) ?_
 refine J.ok (OK.ldBox S2 1 6 3 1 (iv a1) (by kernel_rfl) rfl (by kernel_rfl)) ?_
 refine J.ok (OK.indexP 7 48 5 1 b1 0 2 2 (by kernel_rfl) (by kernel_rfl) (by omega) (by omega)) ?_
 refine J.head (.pointer (some ⟨b1, 2, none⟩)) (by first | rfl | (rw [Nat.zero_add, Nat.mul_one])) ?_
 refine J.ok (OK.ldBox S2 1 8 3 2 (iv a2) (by kernel_rfl) rfl (by kernel_rfl)) ?_
 refine J.ok (OK.indexP 9 48 5 1 b1 0 3 3 (by kernel_rfl) (by kernel_rfl) (by omega) (by omega)) ?_
 refine J.head (.pointer (some ⟨b1, 3, none⟩)) (by first | rfl | (rw [Nat.zero_add, Nat.mul_one])) ?_
 refine J.ok (OK.ldBox S2 1 10 3 3 (iv a3) (by kernel_rfl) rfl (by kernel_rfl)) ?_
 refine J.ok (OK.indexP 11 48 5 1 b1 0 4 4 (by kernel_rfl) (by kernel_rfl) (by omega) (by omega)) ?_
 refine J.head (.pointer (some ⟨b1, 4, none⟩)) (by first | rfl | (rw [Nat.zero_add, Nat.mul_one])) ?_
 refine J.ok (OK.ldBox S2 1 12 3 4 (iv a4) (by kernel_rfl) rfl (by kernel_rfl)) ?_
 refine J.run 1 K51_2 [(13, .agg #[iv a0, iv a1, iv a2, iv a3, iv a4]), (2, .pointer (some ⟨b2, 0, none⟩))] w2 (by kernel_rfl) ?_
 refine J.stBox S2 0 27 0 (.agg #[iv a0, iv a1, iv a2, iv a3, iv a4]) [iv a0, iv a1, iv a2, iv a3, iv a4] [box b2 [iv a0, iv a1, iv a2, iv a3, iv a4] 27, box b1 [iv a0, iv a1, iv a2, iv a3, iv a4] 48] (by kernel_rfl) rfl (by kernel_rfl) (by kernel_rfl) rfl ?_
 intro w3 S3
 refine J.run 1 K51_3 [(2, .pointer (some ⟨b2, 0, none⟩))] w3 (by kernel_rfl) ?_
 refine J.ret Tryd.f51 [.agg #[iv a0, iv a1, iv a2, iv a3, iv a4]] Tryd.func51 ⟨⟨⟨b2, 0, none⟩, by kernel_rfl, ldV_run (S3.nth 0 rfl) (by kernel_rfl)⟩, trivial⟩ ?_
 refine hR _ _ ?_
 exact ⟨rfl, S3.nil⟩

theorem hb36 : HasBody Tryd.prog 36 := fun _ _ => by kernel_rfl
noncomputable def K36_0 : List Item := adv 2 [] (bodyOf Tryd.f36)
noncomputable def K36_1 : List Item := adv 3 [] (popK K36_0)
noncomputable def K36_2 : List Item := adv 4 [] (popK K36_1)
noncomputable def K36_3 : List Item := adv 17 [true] (popK K36_2)
noncomputable def K36_4 : List Item := adv 1 [] (popK K36_3)
noncomputable def K36_5 : List Item := adv 4 [] (popK K36_4)
noncomputable def K36_6 : List Item := adv 13 [] (popK K36_5)
noncomputable def K36_7 : List Item := List.drop 1 K36_6
noncomputable def K36_8 : List Item := adv 5 [] K36_7
noncomputable def K36_9 : List Item := adv 2 [] (popK K36_8)
noncomputable def K36_10 : List Item := List.drop 1 K36_9
noncomputable def K36_11 : List Item := adv 4 [] K36_10
noncomputable def K36_12 : List Item := adv 2 [] (popK (popK (popK (popK K36_11))))
noncomputable def K36_13 : List Item := List.drop 1 K36_12
noncomputable def K36_14 : List Item := List.drop 1 K36_13
noncomputable def K36_15 : List Item := adv 6 [] K36_14
noncomputable def K36_16 : List Item := adv 13 [true] K36_15
noncomputable def K36_17 : List Item := adv 1 [] (popK K36_16)
noncomputable def K36_18 : List Item := adv 4 [] (popK K36_17)
noncomputable def K36_19 : List Item := adv 20 [false] (popK K36_18)
noncomputable def K36_20 : List Item := adv 2 [] (popK K36_19)
noncomputable def K36_21 : List Item := List.drop 1 K36_20
noncomputable def K36_22 : List Item := adv 4 [] K36_21
noncomputable def K36_23 : List Item := adv 2 [] (popK (popK (popK (popK K36_22))))
noncomputable def K36_24 : List Item := adv 8 [false] (rRest K36_23)
noncomputable def K36_25 : List Item := adv 13 [true] K36_24
noncomputable def K36_26 : List Item := adv 1 [] (popK K36_25)
noncomputable def K36_27 : List Item := adv 4 [] (popK K36_26)
noncomputable def K36_28 : List Item := adv 20 [false] (popK K36_27)
noncomputable def K36_29 : List Item := adv 2 [] (popK K36_28)
noncomputable def K36_30 : List Item := List.drop 1 K36_29
noncomputable def K36_31 : List Item := adv 4 [] K36_30
noncomputable def K36_32 : List Item := adv 2 [] (popK (popK (popK (popK K36_31))))
noncomputable def K36_33 : List Item := adv 8 [false] (rRest K36_32)
noncomputable def K36_34 : List Item := adv 13 [true] K36_33
noncomputable def K36_35 : List Item := adv 1 [] (popK K36_34)
noncomputable def K36_36 : List Item := adv 4 [] (popK K36_35)
noncomputable def K36_37 : List Item := adv 20 [false] (popK K36_36)
noncomputable def K36_38 : List Item := adv 2 [] (popK K36_37)
noncomputable def K36_39 : List Item := List.drop 1 K36_38
noncomputable def K36_40 : List Item := adv 4 [] K36_39
noncomputable def K36_41 : List Item := adv 2 [] (popK (popK (popK (popK K36_40))))
noncomputable def K36_42 : List Item := adv 8 [false] (rRest K36_41)
noncomputable def K36_43 : List Item := adv 13 [true] K36_42
noncomputable def K36_44 : List Item := adv 1 [] (popK K36_43)
noncomputable def K36_45 : List Item := adv 4 [] (popK K36_44)
noncomputable def K36_46 : List Item := adv 20 [false] (popK K36_45)
noncomputable def K36_47 : List Item := adv 2 [] (popK K36_46)
noncomputable def K36_48 : List Item := List.drop 1 K36_47
noncomputable def K36_49 : List Item := adv 4 [] K36_48
noncomputable def K36_50 : List Item := adv 2 [] (popK (popK (popK (popK K36_49))))
noncomputable def K36_51 : List Item := adv 8 [false] (rRest K36_50)
noncomputable def K36_52 : List Item := adv 9 [false] K36_51
noncomputable def K36_53 : List Item := adv 6 [true] (rRest K36_52)
noncomputable def K36_54 : List Item := adv 1 [] (popK K36_53)
noncomputable def K36_55 : List Item := adv 2 [] K36_54
noncomputable def K36_56 : List Item := adv 3 [] (popK K36_55)
noncomputable def K36_57 : List Item := adv 3 [] (popK K36_56)
noncomputable def K36_58 : List Item := adv 1 [] (popK (popK (popK K36_57)))
noncomputable def K36_59 : List Item := adv 4 [false] (rRest K36_52)
noncomputable def K36_60 : List Item := adv 1 [] (popK (popK (popK K36_59)))
noncomputable def K36_61 : List Item := adv 4 [false] (rRest K36_52)
noncomputable def K36_62 : List Item := adv 1 [] (popK (popK (popK K36_61)))
noncomputable def K36_63 : List Item := adv 3 [true] K36_47
noncomputable def K36_64 : List Item := adv 3 [true] K36_38
noncomputable def K36_65 : List Item := adv 3 [true] K36_29
noncomputable def K36_66 : List Item := adv 3 [true] K36_20
noncomputable def K36_67 : List Item := adv 3 [true] K36_13
noncomputable def K36_68 : List Item := adv 3 [true] K36_9
noncomputable def K36_69 : List Item := adv 3 [true] K36_6
set_option maxRecDepth 20000 in
set_option maxHeartbeats 20000000 in
theorem line_any (b : Nat) (a : Option Addr) (c : Nat) (L : List Tk) (da : Option Addr) (dc : Nat) (acc : List Dr) (w0 : World) (L0 : List Eng.Claim) (w : World) (S0 : Sep w0 (box b [.slice a L.length c, iv 0, iv 0, iv 0] 75 :: rowOf tkE a c 78 4 L :: rowOf drE da dc 27 5 acc :: L0) w) (hL : L.length ≤ 1000000) (hts : ∀ k, (L.getD k tk0).gText.size ≤ 1000000) (hal : acc.length ≤ 1000000) (hac : acc.length ≠ 0 → 0 ≤ (acc.getD ((acc.length : Int) - 1).toNat dr0).gAt) (hW0 : TabW w0) : Ret Tryd.prog 36 #[.pointer (some ⟨b, 0, none⟩), .slice da acc.length dc] w (fun v w' => ∃ (a' : Int) (d : Dr), v = .agg #[iv d.gAt, iv d.gPedal, iv d.gBrake, iv d.gGear, iv d.gLoad] ∧ (lineS L (fullD acc) (bfD acc) = none → d = lineV L) ∧ Sep w0 (box b [.slice a L.length c, iv (errO (lineS L (fullD acc) (bfD acc))), iv a', iv (idxO (lineS L (fullD acc) (bfD acc)))] 75 :: rowOf tkE a c 78 4 L :: rowOf drE da dc 27 5 acc :: L0) w') := by
 refine Ret.named fun R hR => ?_
 refine Ret.of_J (N := 96) [(0, .pointer (some ⟨b, 0, none⟩)), (1, .slice da acc.length dc)] Tryd.func36 rfl rfl (Nat.le_of_ble_eq_true (by kernel_rfl)) (by kernel_rfl) ?_
 have ha : 0 ≤ (0 : Int) ∧ (0 : Int) ≤ (L.length : Int) := by omega
 have hr0 : RSok none 0 0 0 0 := ⟨rfl, rfl, rfl⟩
 refine J.run 2 K36_0 [(0, .pointer (some ⟨b, 0, none⟩)), (1, .slice da acc.length dc)] w (by kernel_rfl) ?_
 refine J.new S0 4 kvD13_1 27 (by kernel_rfl) ?_
 intro b1 w1 S1
 refine J.run 3 K36_1 [(4, .pointer (some ⟨b1, 0, none⟩)), (0, .pointer (some ⟨b, 0, none⟩)), (1, .slice da acc.length dc)] w1 (by kernel_rfl) ?_
 refine J.new S1 5 kvD13_1 48 (by kernel_rfl) ?_
 intro b2 w2 S2
 refine J.run 4 K36_2 [(5, .pointer (some ⟨b2, 0, none⟩)), (4, .pointer (some ⟨b1, 0, none⟩)), (0, .pointer (some ⟨b, 0, none⟩)), (1, .slice da acc.length dc)] w2 (by kernel_rfl) ?_
 refine J.callF 9 24 #[] hb24 (by kernel_rfl) (parts_any  _) ?_
 rintro _ w3 ⟨rfl, T1⟩
 have S3 : Sep w0 (box b2 kvD13_1 48 :: box b1 kvD13_1 27 :: box b [.slice a L.length c, iv 0, iv 0, iv 0] 75 :: rowOf tkE a c 78 4 L :: rowOf drE da dc 27 5 acc :: L0) w3 := S2.trans T1
 clear T1 S2
 refine J.run 17 K36_3 [(13, .agg #[.string ⟨#[97, 116]⟩, iv 0, iv 1099511627776]), (12, iv 0), (10, iv 0), (9, .agg kvD13_7), (5, .pointer (some ⟨b2, 0, none⟩)), (4, .pointer (some ⟨b1, 0, none⟩)), (0, .pointer (some ⟨b, 0, none⟩)), (1, .slice da acc.length dc)] w3 (by kernel_rfl) ?_
 refine J.new S3 7 [.string ByteArray.empty, iv 0, iv 0] 51 (by kernel_rfl) ?_
 intro b3 w4 S4
 refine J.run 1 K36_4 [(6, iv 0), (7, .pointer (some ⟨b3, 0, none⟩)), (13, .agg #[.string ⟨#[97, 116]⟩, iv 0, iv 1099511627776]), (10, iv 0), (9, .agg kvD13_7), (5, .pointer (some ⟨b2, 0, none⟩)), (4, .pointer (some ⟨b1, 0, none⟩)), (0, .pointer (some ⟨b, 0, none⟩)), (1, .slice da acc.length dc)] w4 (by kernel_rfl) ?_
 refine J.stBox S4 0 51 0 (.agg #[.string ⟨#[97, 116]⟩, iv 0, iv 1099511627776]) kvD13_2 (box b3 kvD13_2 51 :: box b2 kvD13_1 48 :: box b1 kvD13_1 27 :: box b [.slice a L.length c, iv 0, iv 0, iv 0] 75 :: rowOf tkE a c 78 4 L :: rowOf drE da dc 27 5 acc :: L0) (by kernel_rfl) rfl (by kernel_rfl) (by kernel_rfl) rfl ?_
 intro w5 S5
 refine J.run 4 K36_5 [(14, .pointer (some ⟨b, 0, none⟩)), (6, iv 0), (7, .pointer (some ⟨b3, 0, none⟩)), (10, iv 0), (9, .agg kvD13_7), (5, .pointer (some ⟨b2, 0, none⟩)), (4, .pointer (some ⟨b1, 0, none⟩)), (0, .pointer (some ⟨b, 0, none⟩)), (1, .slice da acc.length dc)] w5 (by kernel_rfl) ?_
 have S6 := S5.front 4 rfl
 clear S5
 have S7 : Sep w0 (box b [.slice a L.length c, iv 0, iv 0, iv 0] 75 :: rowOf tkE a c 78 4 L :: box b3 kvD13_2 51 :: box b2 kvD13_1 48 :: box b1 kvD13_1 27 :: rowOf drE da dc 27 5 acc :: L0) w5 := S6.front 4 rfl
 clear S6
 refine J.callF 15 48 #[.pointer (some ⟨b, 0, none⟩)] hb48 (by kernel_rfl) (next_any b a c L 0 0 0 _ _ _ S7 (by omega) (by omega)) ?_
 rintro _ w6 ⟨rfl, S8⟩
 replace S8 : Sep w0 (box b [.slice a L.length c, iv (nxE L 0 0), iv (nxA L 0 0), iv (nxB L 0 0 0)] 75 :: rowOf tkE a c 78 4 L :: box b3 kvD13_2 51 :: box b2 kvD13_1 48 :: box b1 kvD13_1 27 :: rowOf drE da dc 27 5 acc :: L0) w6 := S8
 clear S7
 have S9 := S8.front 4 rfl
 clear S8
 have S10 := S9.front 4 rfl
 clear S9
 have S11 : Sep w0 (box b3 kvD13_2 51 :: box b2 kvD13_1 48 :: box b1 kvD13_1 27 :: box b [.slice a L.length c, iv (nxE L 0 0), iv (nxA L 0 0), iv (nxB L 0 0 0)] 75 :: rowOf tkE a c 78 4 L :: rowOf drE da dc 27 5 acc :: L0) w6 := S10.front 4 rfl
 clear S10
 obtain ⟨hr1, ht1⟩ := next_ok (L := L) (st := none) (k := 0) (j := 0) (j2 := 1) hr0 ha rfl rfl
 have hhb1 := nxA_bounds (e := 0) ha
 refine J.run 13 K36_6 [(22, .bool ((acc.length : Int) == 200)), (8, .string (nxT L 0 0)), (6, iv 0), (7, .pointer (some ⟨b3, 0, none⟩)), (10, iv 0), (9, .agg kvD13_7), (5, .pointer (some ⟨b2, 0, none⟩)), (4, .pointer (some ⟨b1, 0, none⟩)), (0, .pointer (some ⟨b, 0, none⟩)), (1, .slice da acc.length dc)] w6 (by kernel_rfl) ?_
 have X1 : ∀ (je1 : Int) (ja1 : Int) (jb1 : Int) (w7 : World), (RSok (chk (needS L none 0) (fullD acc) 5 0) je1 ja1 jb1 1) → (0 ≤ ja1 ∧ ja1 ≤ (L.length : Int)) → Sep w0 (box b3 kvD13_2 51 :: box b2 kvD13_1 48 :: box b1 kvD13_1 27 :: box b [.slice a L.length c, iv je1, iv ja1, iv jb1] 75 :: rowOf tkE a c 78 4 L :: rowOf drE da dc 27 5 acc :: L0) w7 → J Tryd.prog 36 96 R K36_7 [(8, .string (nxT L 0 0)), (6, iv 0), (7, .pointer (some ⟨b3, 0, none⟩)), (10, iv 0), (9, .agg kvD13_7), (5, .pointer (some ⟨b2, 0, none⟩)), (4, .pointer (some ⟨b1, 0, none⟩)), (0, .pointer (some ⟨b, 0, none⟩)), (1, .slice da acc.length dc)] w7 := by
  intro je1 ja1 jb1 w7 hj1 hk1 S12
  skip
  refine J.run 5 K36_8 [(26, .pointer (some ⟨b3, 0, none⟩)), (25, .string (nxT L 0 0)), (6, iv 0), (7, .pointer (some ⟨b3, 0, none⟩)), (10, iv 0), (9, .agg kvD13_7), (5, .pointer (some ⟨b2, 0, none⟩)), (4, .pointer (some ⟨b1, 0, none⟩)), (0, .pointer (some ⟨b, 0, none⟩)), (1, .slice da acc.length dc)] w7 (by kernel_rfl) ?_
  refine J.ok (OK.ldBox S12 0 27 9 0 (.string ⟨#[97, 116]⟩) (by kernel_rfl) rfl (by kernel_rfl)) ?_
  refine J.run 2 K36_9 [(28, .bool (!((nxT L 0 0).toList == (⟨#[97, 116]⟩ : ByteArray).toList))), (6, iv 0), (7, .pointer (some ⟨b3, 0, none⟩)), (10, iv 0), (9, .agg kvD13_7), (5, .pointer (some ⟨b2, 0, none⟩)), (4, .pointer (some ⟨b1, 0, none⟩)), (0, .pointer (some ⟨b, 0, none⟩)), (1, .slice da acc.length dc)] w7 (by kernel_rfl) ?_
  have X2 : ∀ (je2 : Int) (ja2 : Int) (jb2 : Int) (w8 : World), (RSok (ls1 L (fullD acc)) je2 ja2 jb2 1) → (0 ≤ ja2 ∧ ja2 ≤ (L.length : Int)) → Sep w0 (box b3 kvD13_2 51 :: box b2 kvD13_1 48 :: box b1 kvD13_1 27 :: box b [.slice a L.length c, iv je2, iv ja2, iv jb2] 75 :: rowOf tkE a c 78 4 L :: rowOf drE da dc 27 5 acc :: L0) w8 → J Tryd.prog 36 96 R K36_10 [(6, iv 0), (7, .pointer (some ⟨b3, 0, none⟩)), (10, iv 0), (9, .agg kvD13_7), (5, .pointer (some ⟨b2, 0, none⟩)), (4, .pointer (some ⟨b1, 0, none⟩)), (0, .pointer (some ⟨b, 0, none⟩)), (1, .slice da acc.length dc)] w8 := by
   intro je2 ja2 jb2 w8 hj2 hk2 S13
   skip
   refine J.run 4 K36_11 [(32, .pointer (some ⟨b, 0, none⟩)), (31, iv 0), (6, iv 0), (7, .pointer (some ⟨b3, 0, none⟩)), (10, iv 0), (9, .agg kvD13_7), (5, .pointer (some ⟨b2, 0, none⟩)), (4, .pointer (some ⟨b1, 0, none⟩)), (0, .pointer (some ⟨b, 0, none⟩)), (1, .slice da acc.length dc)] w8 (by kernel_rfl) ?_
   refine J.ok (OK.ldBox S13 0 33 51 0 (.agg #[.string ⟨#[97, 116]⟩, iv 0, iv 1099511627776]) (by kernel_rfl) rfl (by kernel_rfl)) ?_
   have S14 := S13.front 4 rfl
   clear S13
   have S15 : Sep w0 (box b [.slice a L.length c, iv je2, iv ja2, iv jb2] 75 :: rowOf tkE a c 78 4 L :: box b3 kvD13_2 51 :: box b2 kvD13_1 48 :: box b1 kvD13_1 27 :: rowOf drE da dc 27 5 acc :: L0) w8 := S14.front 4 rfl
   clear S14
   refine J.callF 34 50 #[.pointer (some ⟨b, 0, none⟩), .agg #[.string ⟨#[97, 116]⟩, iv 0, iv 1099511627776]] hb50 (by kernel_rfl) (number_any b a c L je2 ja2 jb2 (⟨#[97, 116]⟩ : ByteArray) 0 1099511627776 _ _ _ S15 (by omega) (by omega) hts (by omega) hW0) ?_
   rintro _ w9 ⟨rfl, S16⟩
   replace S16 : Sep w0 (box b [.slice a L.length c, iv (nuE L je2 ja2 0 1099511627776), iv (nxA L je2 ja2), iv (nuB L je2 ja2 jb2 0 1099511627776)] 75 :: rowOf tkE a c 78 4 L :: box b3 kvD13_2 51 :: box b2 kvD13_1 48 :: box b1 kvD13_1 27 :: rowOf drE da dc 27 5 acc :: L0) w9 := S16
   clear S15
   have S17 := S16.front 4 rfl
   clear S16
   have S18 := S17.front 4 rfl
   clear S17
   have S19 : Sep w0 (box b3 kvD13_2 51 :: box b2 kvD13_1 48 :: box b1 kvD13_1 27 :: box b [.slice a L.length c, iv (nuE L je2 ja2 0 1099511627776), iv (nxA L je2 ja2), iv (nuB L je2 ja2 jb2 0 1099511627776)] 75 :: rowOf tkE a c 78 4 L :: rowOf drE da dc 27 5 acc :: L0) w9 := S18.front 4 rfl
   clear S18
   obtain ⟨hr2, hn1⟩ := num_ok (L := L) (st := ls1 L (fullD acc)) (k := 1) (j := 1) (j2 := 2) (lo := 0) (hi := 1099511627776) hj2 hk2 rfl rfl
   have hhb2 := nxA_bounds (e := je2) hk2
   refine J.ok (OK.indexP 35 48 5 1 b2 0 0 0 (by kernel_rfl) (by kernel_rfl) (by omega) (by omega)) ?_
   refine J.head (.pointer (some ⟨b2, 0, none⟩)) (by first | rfl | (rw [Nat.zero_add, Nat.mul_one])) ?_
   refine J.stBox S19 1 3 0 (iv (nuX L je2 ja2)) [iv (nuX L je2 ja2), iv 0, iv 0, iv 0, iv 0] (box b3 kvD13_2 51 :: box b2 [iv (nuX L je2 ja2), iv 0, iv 0, iv 0, iv 0] 48 :: box b1 kvD13_1 27 :: box b [.slice a L.length c, iv (nuE L je2 ja2 0 1099511627776), iv (nxA L je2 ja2), iv (nuB L je2 ja2 jb2 0 1099511627776)] 75 :: rowOf tkE a c 78 4 L :: rowOf drE da dc 27 5 acc :: L0) (by kernel_rfl) rfl (by kernel_rfl) (by kernel_rfl) rfl ?_
   intro w10 S20
   refine J.run 2 K36_12 [(6, iv 0), (10, iv 0), (9, .agg kvD13_7), (5, .pointer (some ⟨b2, 0, none⟩)), (4, .pointer (some ⟨b1, 0, none⟩)), (0, .pointer (some ⟨b, 0, none⟩)), (1, .slice da acc.length dc)] w10 (by kernel_rfl) ?_
   have X3 : ∀ (tb : Bool) (w11 : World), (tb = (if acc.length = 0 then decide (nuX L je2 ja2 ≠ 0) else decide (nuX L je2 ja2 ≤ (acc.getD ((acc.length : Int) - 1).toNat dr0).gAt))) → Sep w0 (box b3 kvD13_2 51 :: box b2 [iv (nuX L je2 ja2), iv 0, iv 0, iv 0, iv 0] 48 :: box b1 kvD13_1 27 :: box b [.slice a L.length c, iv (nuE L je2 ja2 0 1099511627776), iv (nxA L je2 ja2), iv (nuB L je2 ja2 jb2 0 1099511627776)] 75 :: rowOf tkE a c 78 4 L :: rowOf drE da dc 27 5 acc :: L0) w11 → J Tryd.prog 36 96 R K36_13 [(10, iv 0), (9, .agg kvD13_7), (5, .pointer (some ⟨b2, 0, none⟩)), (4, .pointer (some ⟨b1, 0, none⟩)), (0, .pointer (some ⟨b, 0, none⟩)), (1, .slice da acc.length dc), (64, .bool tb)] w11 := by
    intro tb w11 htb S21
    have X4 : ∀ (je3 : Int) (ja3 : Int) (jb3 : Int) (w12 : World), (RSok (ls3 L (fullD acc) (bfD acc)) je3 ja3 jb3 2) → (0 ≤ ja3 ∧ ja3 ≤ (L.length : Int)) → Sep w0 (box b3 kvD13_2 51 :: box b2 [iv (nuX L je2 ja2), iv 0, iv 0, iv 0, iv 0] 48 :: box b1 kvD13_1 27 :: box b [.slice a L.length c, iv je3, iv ja3, iv jb3] 75 :: rowOf tkE a c 78 4 L :: rowOf drE da dc 27 5 acc :: L0) w12 → J Tryd.prog 36 96 R K36_14 [(10, iv 0), (9, .agg kvD13_7), (5, .pointer (some ⟨b2, 0, none⟩)), (4, .pointer (some ⟨b1, 0, none⟩)), (0, .pointer (some ⟨b, 0, none⟩)), (1, .slice da acc.length dc)] w12 := by
     intro je3 ja3 jb3 w12 hj3 hk3 S22
     skip
     refine J.run 6 K36_15 [(10, iv 1), (9, .agg kvD13_7), (5, .pointer (some ⟨b2, 0, none⟩)), (4, .pointer (some ⟨b1, 0, none⟩)), (0, .pointer (some ⟨b, 0, none⟩)), (1, .slice da acc.length dc)] w12 (by kernel_rfl) ?_
     have S23 : Sep w0 (box b2 [iv (nuX L je2 ja2), iv 0, iv 0, iv 0, iv 0] 48 :: box b1 kvD13_1 27 :: box b [.slice a L.length c, iv je3, iv ja3, iv jb3] 75 :: rowOf tkE a c 78 4 L :: rowOf drE da dc 27 5 acc :: L0) w12 := S22.erase 0
     clear S22
     refine J.run 13 K36_16 [(13, .agg #[.string ⟨#[112, 101, 100, 97, 108]⟩, iv 0, iv 1000]), (12, iv 1), (10, iv 1), (9, .agg kvD13_7), (5, .pointer (some ⟨b2, 0, none⟩)), (4, .pointer (some ⟨b1, 0, none⟩)), (0, .pointer (some ⟨b, 0, none⟩)), (1, .slice da acc.length dc)] w12 (by kernel_rfl) ?_
     refine J.new S23 7 [.string ByteArray.empty, iv 0, iv 0] 51 (by kernel_rfl) ?_
     intro b4 w13 S24
     refine J.run 1 K36_17 [(6, iv 1), (7, .pointer (some ⟨b4, 0, none⟩)), (13, .agg #[.string ⟨#[112, 101, 100, 97, 108]⟩, iv 0, iv 1000]), (10, iv 1), (9, .agg kvD13_7), (5, .pointer (some ⟨b2, 0, none⟩)), (4, .pointer (some ⟨b1, 0, none⟩)), (0, .pointer (some ⟨b, 0, none⟩)), (1, .slice da acc.length dc)] w13 (by kernel_rfl) ?_
     refine J.stBox S24 0 51 0 (.agg #[.string ⟨#[112, 101, 100, 97, 108]⟩, iv 0, iv 1000]) kvD13_3 (box b4 kvD13_3 51 :: box b2 [iv (nuX L je2 ja2), iv 0, iv 0, iv 0, iv 0] 48 :: box b1 kvD13_1 27 :: box b [.slice a L.length c, iv je3, iv ja3, iv jb3] 75 :: rowOf tkE a c 78 4 L :: rowOf drE da dc 27 5 acc :: L0) (by kernel_rfl) rfl (by kernel_rfl) (by kernel_rfl) rfl ?_
     intro w14 S25
     refine J.run 4 K36_18 [(14, .pointer (some ⟨b, 0, none⟩)), (6, iv 1), (7, .pointer (some ⟨b4, 0, none⟩)), (10, iv 1), (9, .agg kvD13_7), (5, .pointer (some ⟨b2, 0, none⟩)), (4, .pointer (some ⟨b1, 0, none⟩)), (0, .pointer (some ⟨b, 0, none⟩)), (1, .slice da acc.length dc)] w14 (by kernel_rfl) ?_
     have S26 := S25.front 4 rfl
     clear S25
     have S27 : Sep w0 (box b [.slice a L.length c, iv je3, iv ja3, iv jb3] 75 :: rowOf tkE a c 78 4 L :: box b4 kvD13_3 51 :: box b2 [iv (nuX L je2 ja2), iv 0, iv 0, iv 0, iv 0] 48 :: box b1 kvD13_1 27 :: rowOf drE da dc 27 5 acc :: L0) w14 := S26.front 4 rfl
     clear S26
     refine J.callF 15 48 #[.pointer (some ⟨b, 0, none⟩)] hb48 (by kernel_rfl) (next_any b a c L je3 ja3 jb3 _ _ _ S27 (by omega) (by omega)) ?_
     rintro _ w15 ⟨rfl, S28⟩
     replace S28 : Sep w0 (box b [.slice a L.length c, iv (nxE L je3 ja3), iv (nxA L je3 ja3), iv (nxB L je3 ja3 jb3)] 75 :: rowOf tkE a c 78 4 L :: box b4 kvD13_3 51 :: box b2 [iv (nuX L je2 ja2), iv 0, iv 0, iv 0, iv 0] 48 :: box b1 kvD13_1 27 :: rowOf drE da dc 27 5 acc :: L0) w15 := S28
     clear S27
     have S29 := S28.front 4 rfl
     clear S28
     have S30 := S29.front 4 rfl
     clear S29
     have S31 : Sep w0 (box b4 kvD13_3 51 :: box b2 [iv (nuX L je2 ja2), iv 0, iv 0, iv 0, iv 0] 48 :: box b1 kvD13_1 27 :: box b [.slice a L.length c, iv (nxE L je3 ja3), iv (nxA L je3 ja3), iv (nxB L je3 ja3 jb3)] 75 :: rowOf tkE a c 78 4 L :: rowOf drE da dc 27 5 acc :: L0) w15 := S30.front 4 rfl
     clear S30
     obtain ⟨hr3, ht2⟩ := next_ok (L := L) (st := (ls3 L (fullD acc) (bfD acc))) (k := 2) (j := 2) (j2 := 3) hj3 hk3 rfl rfl
     have hhb3 := nxA_bounds (e := je3) hk3
     refine J.run 20 K36_19 [(26, .pointer (some ⟨b4, 0, none⟩)), (25, .string (nxT L je3 ja3)), (6, iv 1), (7, .pointer (some ⟨b4, 0, none⟩)), (10, iv 1), (9, .agg kvD13_7), (5, .pointer (some ⟨b2, 0, none⟩)), (4, .pointer (some ⟨b1, 0, none⟩)), (0, .pointer (some ⟨b, 0, none⟩)), (1, .slice da acc.length dc)] w15 (by kernel_rfl) ?_
     refine J.ok (OK.ldBox S31 0 27 9 0 (.string ⟨#[112, 101, 100, 97, 108]⟩) (by kernel_rfl) rfl (by kernel_rfl)) ?_
     refine J.run 2 K36_20 [(28, .bool (!((nxT L je3 ja3).toList == (⟨#[112, 101, 100, 97, 108]⟩ : ByteArray).toList))), (6, iv 1), (7, .pointer (some ⟨b4, 0, none⟩)), (10, iv 1), (9, .agg kvD13_7), (5, .pointer (some ⟨b2, 0, none⟩)), (4, .pointer (some ⟨b1, 0, none⟩)), (0, .pointer (some ⟨b, 0, none⟩)), (1, .slice da acc.length dc)] w15 (by kernel_rfl) ?_
     have X5 : ∀ (je4 : Int) (ja4 : Int) (jb4 : Int) (w16 : World), (RSok (ls4 L (fullD acc) (bfD acc)) je4 ja4 jb4 3) → (0 ≤ ja4 ∧ ja4 ≤ (L.length : Int)) → Sep w0 (box b4 kvD13_3 51 :: box b2 [iv (nuX L je2 ja2), iv 0, iv 0, iv 0, iv 0] 48 :: box b1 kvD13_1 27 :: box b [.slice a L.length c, iv je4, iv ja4, iv jb4] 75 :: rowOf tkE a c 78 4 L :: rowOf drE da dc 27 5 acc :: L0) w16 → J Tryd.prog 36 96 R K36_21 [(6, iv 1), (7, .pointer (some ⟨b4, 0, none⟩)), (10, iv 1), (9, .agg kvD13_7), (5, .pointer (some ⟨b2, 0, none⟩)), (4, .pointer (some ⟨b1, 0, none⟩)), (0, .pointer (some ⟨b, 0, none⟩)), (1, .slice da acc.length dc)] w16 := by
      intro je4 ja4 jb4 w16 hj4 hk4 S32
      skip
      refine J.run 4 K36_22 [(32, .pointer (some ⟨b, 0, none⟩)), (31, iv 1), (6, iv 1), (7, .pointer (some ⟨b4, 0, none⟩)), (10, iv 1), (9, .agg kvD13_7), (5, .pointer (some ⟨b2, 0, none⟩)), (4, .pointer (some ⟨b1, 0, none⟩)), (0, .pointer (some ⟨b, 0, none⟩)), (1, .slice da acc.length dc)] w16 (by kernel_rfl) ?_
      refine J.ok (OK.ldBox S32 0 33 51 0 (.agg #[.string ⟨#[112, 101, 100, 97, 108]⟩, iv 0, iv 1000]) (by kernel_rfl) rfl (by kernel_rfl)) ?_
      have S33 := S32.front 4 rfl
      clear S32
      have S34 : Sep w0 (box b [.slice a L.length c, iv je4, iv ja4, iv jb4] 75 :: rowOf tkE a c 78 4 L :: box b4 kvD13_3 51 :: box b2 [iv (nuX L je2 ja2), iv 0, iv 0, iv 0, iv 0] 48 :: box b1 kvD13_1 27 :: rowOf drE da dc 27 5 acc :: L0) w16 := S33.front 4 rfl
      clear S33
      refine J.callF 34 50 #[.pointer (some ⟨b, 0, none⟩), .agg #[.string ⟨#[112, 101, 100, 97, 108]⟩, iv 0, iv 1000]] hb50 (by kernel_rfl) (number_any b a c L je4 ja4 jb4 (⟨#[112, 101, 100, 97, 108]⟩ : ByteArray) 0 1000 _ _ _ S34 (by omega) (by omega) hts (by omega) hW0) ?_
      rintro _ w17 ⟨rfl, S35⟩
      replace S35 : Sep w0 (box b [.slice a L.length c, iv (nuE L je4 ja4 0 1000), iv (nxA L je4 ja4), iv (nuB L je4 ja4 jb4 0 1000)] 75 :: rowOf tkE a c 78 4 L :: box b4 kvD13_3 51 :: box b2 [iv (nuX L je2 ja2), iv 0, iv 0, iv 0, iv 0] 48 :: box b1 kvD13_1 27 :: rowOf drE da dc 27 5 acc :: L0) w17 := S35
      clear S34
      have S36 := S35.front 4 rfl
      clear S35
      have S37 := S36.front 4 rfl
      clear S36
      have S38 : Sep w0 (box b4 kvD13_3 51 :: box b2 [iv (nuX L je2 ja2), iv 0, iv 0, iv 0, iv 0] 48 :: box b1 kvD13_1 27 :: box b [.slice a L.length c, iv (nuE L je4 ja4 0 1000), iv (nxA L je4 ja4), iv (nuB L je4 ja4 jb4 0 1000)] 75 :: rowOf tkE a c 78 4 L :: rowOf drE da dc 27 5 acc :: L0) w17 := S37.front 4 rfl
      clear S37
      obtain ⟨hr4, hn2⟩ := num_ok (L := L) (st := ls4 L (fullD acc) (bfD acc)) (k := 3) (j := 3) (j2 := 4) (lo := 0) (hi := 1000) hj4 hk4 rfl rfl
      have hhb4 := nxA_bounds (e := je4) hk4
      refine J.ok (OK.indexP 35 48 5 1 b2 0 1 1 (by kernel_rfl) (by kernel_rfl) (by omega) (by omega)) ?_
      refine J.head (.pointer (some ⟨b2, 1, none⟩)) (by first | rfl | (rw [Nat.zero_add, Nat.mul_one])) ?_
      refine J.stBox S38 1 3 1 (iv (nuX L je4 ja4)) [iv (nuX L je2 ja2), iv (nuX L je4 ja4), iv 0, iv 0, iv 0] (box b4 kvD13_3 51 :: box b2 [iv (nuX L je2 ja2), iv (nuX L je4 ja4), iv 0, iv 0, iv 0] 48 :: box b1 kvD13_1 27 :: box b [.slice a L.length c, iv (nuE L je4 ja4 0 1000), iv (nxA L je4 ja4), iv (nuB L je4 ja4 jb4 0 1000)] 75 :: rowOf tkE a c 78 4 L :: rowOf drE da dc 27 5 acc :: L0) (by kernel_rfl) rfl (by kernel_rfl) (by kernel_rfl) rfl ?_
      intro w18 S39
      refine J.run 2 K36_23 [(6, iv 1), (10, iv 1), (9, .agg kvD13_7), (5, .pointer (some ⟨b2, 0, none⟩)), (4, .pointer (some ⟨b1, 0, none⟩)), (0, .pointer (some ⟨b, 0, none⟩)), (1, .slice da acc.length dc)] w18 (by kernel_rfl) ?_
      refine J.drawStill S39 29 Tryd.mixed (by kernel_rfl) (by kernel_rfl) (by kernel_rfl) ?_
      intro w19 S40
      refine SL.ok (by decide) (OK.run 36 (iv 1) (by kernel_rfl)) ?_
      refine SL.ok (by decide) (OK.run 37 (.bool false) (by kernel_rfl)) ?_
      refine SL.ok (by decide) (OK.run 38 (.bool false) (by kernel_rfl)) ?_
      refine SL.pass (d := some 39) (by decide) (by kernel_rfl) ?_
      refine SL.pass (d := some 40) (by decide) (by kernel_rfl) ?_
      refine SL.pass (d := some 41) (by decide) (by kernel_rfl) ?_
      refine SL.pass (d := some 42) (by decide) (by kernel_rfl) ?_
      refine SL.pass (d := some 43) (by decide) (by kernel_rfl) ?_
      refine SL.pass (d := some 44) (by decide) (by kernel_rfl) ?_
      refine SL.pass (d := some 45) (by decide) (by kernel_rfl) ?_
      refine SL.pass (d := some 46) (by decide) (by kernel_rfl) ?_
      refine SL.pass (d := some 47) (by decide) (by kernel_rfl) ?_
      refine SL.pass (d := some 48) (by decide) (by kernel_rfl) ?_
      refine SL.pass (d := some 49) (by decide) (by kernel_rfl) ?_
      refine SL.pass (d := some 50) (by decide) (by kernel_rfl) ?_
      refine SL.pass (d := some 51) (by decide) (by kernel_rfl) ?_
      refine SL.pass (d := some 52) (by decide) (by kernel_rfl) ?_
      refine SL.pass (d := some 53) (by decide) (by kernel_rfl) ?_
      refine SL.pass (d := some 54) (by decide) (by kernel_rfl) ?_
      refine SL.pass (d := some 55) (by decide) (by kernel_rfl) ?_
      refine SL.pass (d := some 56) (by decide) (by kernel_rfl) ?_
      refine SL.pass (d := some 57) (by decide) (by kernel_rfl) ?_
      refine SL.pass (d := some 58) (by decide) (by kernel_rfl) ?_
      refine SL.pass (d := some 59) (by decide) (by kernel_rfl) ?_
      refine SL.pass (d := some 60) (by decide) (by kernel_rfl) ?_
      refine SL.pass (d := some 61) (by decide) (by kernel_rfl) ?_
      refine SL.pass (d := some 62) (by decide) (by kernel_rfl) ?_
      refine SL.pass (d := some 63) (by decide) (by kernel_rfl) ?_
      refine SL.ok (by decide) (OK.run 64 (.bool false) (by kernel_rfl)) ?_
      refine SL.done ?_
      refine TL.done (by kernel_rfl) ?_
      refine J.run 0 (rRest K36_23) [(64, .bool false), (10, iv 1), (9, .agg kvD13_7), (5, .pointer (some ⟨b2, 0, none⟩)), (4, .pointer (some ⟨b1, 0, none⟩)), (0, .pointer (some ⟨b, 0, none⟩)), (1, .slice da acc.length dc)] w19 (by kernel_rfl) ?_
      refine J.run 8 K36_24 [(10, iv 2), (9, .agg kvD13_7), (5, .pointer (some ⟨b2, 0, none⟩)), (4, .pointer (some ⟨b1, 0, none⟩)), (0, .pointer (some ⟨b, 0, none⟩)), (1, .slice da acc.length dc)] w19 (by kernel_rfl) ?_
      have S41 : Sep w0 (box b2 [iv (nuX L je2 ja2), iv (nuX L je4 ja4), iv 0, iv 0, iv 0] 48 :: box b1 kvD13_1 27 :: box b [.slice a L.length c, iv (nuE L je4 ja4 0 1000), iv (nxA L je4 ja4), iv (nuB L je4 ja4 jb4 0 1000)] 75 :: rowOf tkE a c 78 4 L :: rowOf drE da dc 27 5 acc :: L0) w19 := S40.erase 0
      clear S40
      refine J.run 13 K36_25 [(13, .agg #[.string ⟨#[98, 114, 97, 107, 101]⟩, iv 0, iv 1000]), (12, iv 2), (10, iv 2), (9, .agg kvD13_7), (5, .pointer (some ⟨b2, 0, none⟩)), (4, .pointer (some ⟨b1, 0, none⟩)), (0, .pointer (some ⟨b, 0, none⟩)), (1, .slice da acc.length dc)] w19 (by kernel_rfl) ?_
      refine J.new S41 7 [.string ByteArray.empty, iv 0, iv 0] 51 (by kernel_rfl) ?_
      intro b5 w20 S42
      refine J.run 1 K36_26 [(6, iv 2), (7, .pointer (some ⟨b5, 0, none⟩)), (13, .agg #[.string ⟨#[98, 114, 97, 107, 101]⟩, iv 0, iv 1000]), (10, iv 2), (9, .agg kvD13_7), (5, .pointer (some ⟨b2, 0, none⟩)), (4, .pointer (some ⟨b1, 0, none⟩)), (0, .pointer (some ⟨b, 0, none⟩)), (1, .slice da acc.length dc)] w20 (by kernel_rfl) ?_
      refine J.stBox S42 0 51 0 (.agg #[.string ⟨#[98, 114, 97, 107, 101]⟩, iv 0, iv 1000]) kvD13_5 (box b5 kvD13_5 51 :: box b2 [iv (nuX L je2 ja2), iv (nuX L je4 ja4), iv 0, iv 0, iv 0] 48 :: box b1 kvD13_1 27 :: box b [.slice a L.length c, iv (nuE L je4 ja4 0 1000), iv (nxA L je4 ja4), iv (nuB L je4 ja4 jb4 0 1000)] 75 :: rowOf tkE a c 78 4 L :: rowOf drE da dc 27 5 acc :: L0) (by kernel_rfl) rfl (by kernel_rfl) (by kernel_rfl) rfl ?_
      intro w21 S43
      refine J.run 4 K36_27 [(14, .pointer (some ⟨b, 0, none⟩)), (6, iv 2), (7, .pointer (some ⟨b5, 0, none⟩)), (10, iv 2), (9, .agg kvD13_7), (5, .pointer (some ⟨b2, 0, none⟩)), (4, .pointer (some ⟨b1, 0, none⟩)), (0, .pointer (some ⟨b, 0, none⟩)), (1, .slice da acc.length dc)] w21 (by kernel_rfl) ?_
      have S44 := S43.front 4 rfl
      clear S43
      have S45 : Sep w0 (box b [.slice a L.length c, iv (nuE L je4 ja4 0 1000), iv (nxA L je4 ja4), iv (nuB L je4 ja4 jb4 0 1000)] 75 :: rowOf tkE a c 78 4 L :: box b5 kvD13_5 51 :: box b2 [iv (nuX L je2 ja2), iv (nuX L je4 ja4), iv 0, iv 0, iv 0] 48 :: box b1 kvD13_1 27 :: rowOf drE da dc 27 5 acc :: L0) w21 := S44.front 4 rfl
      clear S44
      refine J.callF 15 48 #[.pointer (some ⟨b, 0, none⟩)] hb48 (by kernel_rfl) (next_any b a c L (nuE L je4 ja4 0 1000) (nxA L je4 ja4) (nuB L je4 ja4 jb4 0 1000) _ _ _ S45 (by omega) (by omega)) ?_
      rintro _ w22 ⟨rfl, S46⟩
      replace S46 : Sep w0 (box b [.slice a L.length c, iv (nxE L (nuE L je4 ja4 0 1000) (nxA L je4 ja4)), iv (nxA L (nuE L je4 ja4 0 1000) (nxA L je4 ja4)), iv (nxB L (nuE L je4 ja4 0 1000) (nxA L je4 ja4) (nuB L je4 ja4 jb4 0 1000))] 75 :: rowOf tkE a c 78 4 L :: box b5 kvD13_5 51 :: box b2 [iv (nuX L je2 ja2), iv (nuX L je4 ja4), iv 0, iv 0, iv 0] 48 :: box b1 kvD13_1 27 :: rowOf drE da dc 27 5 acc :: L0) w22 := S46
      clear S45
      have S47 := S46.front 4 rfl
      clear S46
      have S48 := S47.front 4 rfl
      clear S47
      have S49 : Sep w0 (box b5 kvD13_5 51 :: box b2 [iv (nuX L je2 ja2), iv (nuX L je4 ja4), iv 0, iv 0, iv 0] 48 :: box b1 kvD13_1 27 :: box b [.slice a L.length c, iv (nxE L (nuE L je4 ja4 0 1000) (nxA L je4 ja4)), iv (nxA L (nuE L je4 ja4 0 1000) (nxA L je4 ja4)), iv (nxB L (nuE L je4 ja4 0 1000) (nxA L je4 ja4) (nuB L je4 ja4 jb4 0 1000))] 75 :: rowOf tkE a c 78 4 L :: rowOf drE da dc 27 5 acc :: L0) w22 := S48.front 4 rfl
      clear S48
      obtain ⟨hr5, ht3⟩ := next_ok (L := L) (st := (ls5 L (fullD acc) (bfD acc))) (k := 4) (j := 4) (j2 := 5) hr4 hhb4 rfl rfl
      have hhb5 := nxA_bounds (e := nuE L je4 ja4 0 1000) hhb4
      refine J.run 20 K36_28 [(26, .pointer (some ⟨b5, 0, none⟩)), (25, .string (nxT L (nuE L je4 ja4 0 1000) (nxA L je4 ja4))), (6, iv 2), (7, .pointer (some ⟨b5, 0, none⟩)), (10, iv 2), (9, .agg kvD13_7), (5, .pointer (some ⟨b2, 0, none⟩)), (4, .pointer (some ⟨b1, 0, none⟩)), (0, .pointer (some ⟨b, 0, none⟩)), (1, .slice da acc.length dc)] w22 (by kernel_rfl) ?_
      refine J.ok (OK.ldBox S49 0 27 9 0 (.string ⟨#[98, 114, 97, 107, 101]⟩) (by kernel_rfl) rfl (by kernel_rfl)) ?_
      refine J.run 2 K36_29 [(28, .bool (!((nxT L (nuE L je4 ja4 0 1000) (nxA L je4 ja4)).toList == (⟨#[98, 114, 97, 107, 101]⟩ : ByteArray).toList))), (6, iv 2), (7, .pointer (some ⟨b5, 0, none⟩)), (10, iv 2), (9, .agg kvD13_7), (5, .pointer (some ⟨b2, 0, none⟩)), (4, .pointer (some ⟨b1, 0, none⟩)), (0, .pointer (some ⟨b, 0, none⟩)), (1, .slice da acc.length dc)] w22 (by kernel_rfl) ?_
      have X6 : ∀ (je5 : Int) (ja5 : Int) (jb5 : Int) (w23 : World), (RSok (ls6 L (fullD acc) (bfD acc)) je5 ja5 jb5 5) → (0 ≤ ja5 ∧ ja5 ≤ (L.length : Int)) → Sep w0 (box b5 kvD13_5 51 :: box b2 [iv (nuX L je2 ja2), iv (nuX L je4 ja4), iv 0, iv 0, iv 0] 48 :: box b1 kvD13_1 27 :: box b [.slice a L.length c, iv je5, iv ja5, iv jb5] 75 :: rowOf tkE a c 78 4 L :: rowOf drE da dc 27 5 acc :: L0) w23 → J Tryd.prog 36 96 R K36_30 [(6, iv 2), (7, .pointer (some ⟨b5, 0, none⟩)), (10, iv 2), (9, .agg kvD13_7), (5, .pointer (some ⟨b2, 0, none⟩)), (4, .pointer (some ⟨b1, 0, none⟩)), (0, .pointer (some ⟨b, 0, none⟩)), (1, .slice da acc.length dc)] w23 := by
       intro je5 ja5 jb5 w23 hj5 hk5 S50
       skip
       refine J.run 4 K36_31 [(32, .pointer (some ⟨b, 0, none⟩)), (31, iv 2), (6, iv 2), (7, .pointer (some ⟨b5, 0, none⟩)), (10, iv 2), (9, .agg kvD13_7), (5, .pointer (some ⟨b2, 0, none⟩)), (4, .pointer (some ⟨b1, 0, none⟩)), (0, .pointer (some ⟨b, 0, none⟩)), (1, .slice da acc.length dc)] w23 (by kernel_rfl) ?_
       refine J.ok (OK.ldBox S50 0 33 51 0 (.agg #[.string ⟨#[98, 114, 97, 107, 101]⟩, iv 0, iv 1000]) (by kernel_rfl) rfl (by kernel_rfl)) ?_
       have S51 := S50.front 4 rfl
       clear S50
       have S52 : Sep w0 (box b [.slice a L.length c, iv je5, iv ja5, iv jb5] 75 :: rowOf tkE a c 78 4 L :: box b5 kvD13_5 51 :: box b2 [iv (nuX L je2 ja2), iv (nuX L je4 ja4), iv 0, iv 0, iv 0] 48 :: box b1 kvD13_1 27 :: rowOf drE da dc 27 5 acc :: L0) w23 := S51.front 4 rfl
       clear S51
       refine J.callF 34 50 #[.pointer (some ⟨b, 0, none⟩), .agg #[.string ⟨#[98, 114, 97, 107, 101]⟩, iv 0, iv 1000]] hb50 (by kernel_rfl) (number_any b a c L je5 ja5 jb5 (⟨#[98, 114, 97, 107, 101]⟩ : ByteArray) 0 1000 _ _ _ S52 (by omega) (by omega) hts (by omega) hW0) ?_
       rintro _ w24 ⟨rfl, S53⟩
       replace S53 : Sep w0 (box b [.slice a L.length c, iv (nuE L je5 ja5 0 1000), iv (nxA L je5 ja5), iv (nuB L je5 ja5 jb5 0 1000)] 75 :: rowOf tkE a c 78 4 L :: box b5 kvD13_5 51 :: box b2 [iv (nuX L je2 ja2), iv (nuX L je4 ja4), iv 0, iv 0, iv 0] 48 :: box b1 kvD13_1 27 :: rowOf drE da dc 27 5 acc :: L0) w24 := S53
       clear S52
       have S54 := S53.front 4 rfl
       clear S53
       have S55 := S54.front 4 rfl
       clear S54
       have S56 : Sep w0 (box b5 kvD13_5 51 :: box b2 [iv (nuX L je2 ja2), iv (nuX L je4 ja4), iv 0, iv 0, iv 0] 48 :: box b1 kvD13_1 27 :: box b [.slice a L.length c, iv (nuE L je5 ja5 0 1000), iv (nxA L je5 ja5), iv (nuB L je5 ja5 jb5 0 1000)] 75 :: rowOf tkE a c 78 4 L :: rowOf drE da dc 27 5 acc :: L0) w24 := S55.front 4 rfl
       clear S55
       obtain ⟨hr6, hn3⟩ := num_ok (L := L) (st := ls6 L (fullD acc) (bfD acc)) (k := 5) (j := 5) (j2 := 6) (lo := 0) (hi := 1000) hj5 hk5 rfl rfl
       have hhb6 := nxA_bounds (e := je5) hk5
       refine J.ok (OK.indexP 35 48 5 1 b2 0 2 2 (by kernel_rfl) (by kernel_rfl) (by omega) (by omega)) ?_
       refine J.head (.pointer (some ⟨b2, 2, none⟩)) (by first | rfl | (rw [Nat.zero_add, Nat.mul_one])) ?_
       refine J.stBox S56 1 3 2 (iv (nuX L je5 ja5)) [iv (nuX L je2 ja2), iv (nuX L je4 ja4), iv (nuX L je5 ja5), iv 0, iv 0] (box b5 kvD13_5 51 :: box b2 [iv (nuX L je2 ja2), iv (nuX L je4 ja4), iv (nuX L je5 ja5), iv 0, iv 0] 48 :: box b1 kvD13_1 27 :: box b [.slice a L.length c, iv (nuE L je5 ja5 0 1000), iv (nxA L je5 ja5), iv (nuB L je5 ja5 jb5 0 1000)] 75 :: rowOf tkE a c 78 4 L :: rowOf drE da dc 27 5 acc :: L0) (by kernel_rfl) rfl (by kernel_rfl) (by kernel_rfl) rfl ?_
       intro w25 S57
       refine J.run 2 K36_32 [(6, iv 2), (10, iv 2), (9, .agg kvD13_7), (5, .pointer (some ⟨b2, 0, none⟩)), (4, .pointer (some ⟨b1, 0, none⟩)), (0, .pointer (some ⟨b, 0, none⟩)), (1, .slice da acc.length dc)] w25 (by kernel_rfl) ?_
       refine J.drawStill S57 29 Tryd.mixed (by kernel_rfl) (by kernel_rfl) (by kernel_rfl) ?_
       intro w26 S58
       refine SL.ok (by decide) (OK.run 36 (iv 2) (by kernel_rfl)) ?_
       refine SL.ok (by decide) (OK.run 37 (.bool false) (by kernel_rfl)) ?_
       refine SL.ok (by decide) (OK.run 38 (.bool false) (by kernel_rfl)) ?_
       refine SL.pass (d := some 39) (by decide) (by kernel_rfl) ?_
       refine SL.pass (d := some 40) (by decide) (by kernel_rfl) ?_
       refine SL.pass (d := some 41) (by decide) (by kernel_rfl) ?_
       refine SL.pass (d := some 42) (by decide) (by kernel_rfl) ?_
       refine SL.pass (d := some 43) (by decide) (by kernel_rfl) ?_
       refine SL.pass (d := some 44) (by decide) (by kernel_rfl) ?_
       refine SL.pass (d := some 45) (by decide) (by kernel_rfl) ?_
       refine SL.pass (d := some 46) (by decide) (by kernel_rfl) ?_
       refine SL.pass (d := some 47) (by decide) (by kernel_rfl) ?_
       refine SL.pass (d := some 48) (by decide) (by kernel_rfl) ?_
       refine SL.pass (d := some 49) (by decide) (by kernel_rfl) ?_
       refine SL.pass (d := some 50) (by decide) (by kernel_rfl) ?_
       refine SL.pass (d := some 51) (by decide) (by kernel_rfl) ?_
       refine SL.pass (d := some 52) (by decide) (by kernel_rfl) ?_
       refine SL.pass (d := some 53) (by decide) (by kernel_rfl) ?_
       refine SL.pass (d := some 54) (by decide) (by kernel_rfl) ?_
       refine SL.pass (d := some 55) (by decide) (by kernel_rfl) ?_
       refine SL.pass (d := some 56) (by decide) (by kernel_rfl) ?_
       refine SL.pass (d := some 57) (by decide) (by kernel_rfl) ?_
       refine SL.pass (d := some 58) (by decide) (by kernel_rfl) ?_
       refine SL.pass (d := some 59) (by decide) (by kernel_rfl) ?_
       refine SL.pass (d := some 60) (by decide) (by kernel_rfl) ?_
       refine SL.pass (d := some 61) (by decide) (by kernel_rfl) ?_
       refine SL.pass (d := some 62) (by decide) (by kernel_rfl) ?_
       refine SL.pass (d := some 63) (by decide) (by kernel_rfl) ?_
       refine SL.ok (by decide) (OK.run 64 (.bool false) (by kernel_rfl)) ?_
       refine SL.done ?_
       refine TL.done (by kernel_rfl) ?_
       refine J.run 0 (rRest K36_32) [(64, .bool false), (10, iv 2), (9, .agg kvD13_7), (5, .pointer (some ⟨b2, 0, none⟩)), (4, .pointer (some ⟨b1, 0, none⟩)), (0, .pointer (some ⟨b, 0, none⟩)), (1, .slice da acc.length dc)] w26 (by kernel_rfl) ?_
       refine J.run 8 K36_33 [(10, iv 3), (9, .agg kvD13_7), (5, .pointer (some ⟨b2, 0, none⟩)), (4, .pointer (some ⟨b1, 0, none⟩)), (0, .pointer (some ⟨b, 0, none⟩)), (1, .slice da acc.length dc)] w26 (by kernel_rfl) ?_
       have S59 : Sep w0 (box b2 [iv (nuX L je2 ja2), iv (nuX L je4 ja4), iv (nuX L je5 ja5), iv 0, iv 0] 48 :: box b1 kvD13_1 27 :: box b [.slice a L.length c, iv (nuE L je5 ja5 0 1000), iv (nxA L je5 ja5), iv (nuB L je5 ja5 jb5 0 1000)] 75 :: rowOf tkE a c 78 4 L :: rowOf drE da dc 27 5 acc :: L0) w26 := S58.erase 0
       clear S58
       refine J.run 13 K36_34 [(13, .agg #[.string ⟨#[103, 101, 97, 114]⟩, iv 0, iv 6]), (12, iv 3), (10, iv 3), (9, .agg kvD13_7), (5, .pointer (some ⟨b2, 0, none⟩)), (4, .pointer (some ⟨b1, 0, none⟩)), (0, .pointer (some ⟨b, 0, none⟩)), (1, .slice da acc.length dc)] w26 (by kernel_rfl) ?_
       refine J.new S59 7 [.string ByteArray.empty, iv 0, iv 0] 51 (by kernel_rfl) ?_
       intro b6 w27 S60
       refine J.run 1 K36_35 [(6, iv 3), (7, .pointer (some ⟨b6, 0, none⟩)), (13, .agg #[.string ⟨#[103, 101, 97, 114]⟩, iv 0, iv 6]), (10, iv 3), (9, .agg kvD13_7), (5, .pointer (some ⟨b2, 0, none⟩)), (4, .pointer (some ⟨b1, 0, none⟩)), (0, .pointer (some ⟨b, 0, none⟩)), (1, .slice da acc.length dc)] w27 (by kernel_rfl) ?_
       refine J.stBox S60 0 51 0 (.agg #[.string ⟨#[103, 101, 97, 114]⟩, iv 0, iv 6]) kvD13_6 (box b6 kvD13_6 51 :: box b2 [iv (nuX L je2 ja2), iv (nuX L je4 ja4), iv (nuX L je5 ja5), iv 0, iv 0] 48 :: box b1 kvD13_1 27 :: box b [.slice a L.length c, iv (nuE L je5 ja5 0 1000), iv (nxA L je5 ja5), iv (nuB L je5 ja5 jb5 0 1000)] 75 :: rowOf tkE a c 78 4 L :: rowOf drE da dc 27 5 acc :: L0) (by kernel_rfl) rfl (by kernel_rfl) (by kernel_rfl) rfl ?_
       intro w28 S61
       refine J.run 4 K36_36 [(14, .pointer (some ⟨b, 0, none⟩)), (6, iv 3), (7, .pointer (some ⟨b6, 0, none⟩)), (10, iv 3), (9, .agg kvD13_7), (5, .pointer (some ⟨b2, 0, none⟩)), (4, .pointer (some ⟨b1, 0, none⟩)), (0, .pointer (some ⟨b, 0, none⟩)), (1, .slice da acc.length dc)] w28 (by kernel_rfl) ?_
       have S62 := S61.front 4 rfl
       clear S61
       have S63 : Sep w0 (box b [.slice a L.length c, iv (nuE L je5 ja5 0 1000), iv (nxA L je5 ja5), iv (nuB L je5 ja5 jb5 0 1000)] 75 :: rowOf tkE a c 78 4 L :: box b6 kvD13_6 51 :: box b2 [iv (nuX L je2 ja2), iv (nuX L je4 ja4), iv (nuX L je5 ja5), iv 0, iv 0] 48 :: box b1 kvD13_1 27 :: rowOf drE da dc 27 5 acc :: L0) w28 := S62.front 4 rfl
       clear S62
       refine J.callF 15 48 #[.pointer (some ⟨b, 0, none⟩)] hb48 (by kernel_rfl) (next_any b a c L (nuE L je5 ja5 0 1000) (nxA L je5 ja5) (nuB L je5 ja5 jb5 0 1000) _ _ _ S63 (by omega) (by omega)) ?_
       rintro _ w29 ⟨rfl, S64⟩
       replace S64 : Sep w0 (box b [.slice a L.length c, iv (nxE L (nuE L je5 ja5 0 1000) (nxA L je5 ja5)), iv (nxA L (nuE L je5 ja5 0 1000) (nxA L je5 ja5)), iv (nxB L (nuE L je5 ja5 0 1000) (nxA L je5 ja5) (nuB L je5 ja5 jb5 0 1000))] 75 :: rowOf tkE a c 78 4 L :: box b6 kvD13_6 51 :: box b2 [iv (nuX L je2 ja2), iv (nuX L je4 ja4), iv (nuX L je5 ja5), iv 0, iv 0] 48 :: box b1 kvD13_1 27 :: rowOf drE da dc 27 5 acc :: L0) w29 := S64
       clear S63
       have S65 := S64.front 4 rfl
       clear S64
       have S66 := S65.front 4 rfl
       clear S65
       have S67 : Sep w0 (box b6 kvD13_6 51 :: box b2 [iv (nuX L je2 ja2), iv (nuX L je4 ja4), iv (nuX L je5 ja5), iv 0, iv 0] 48 :: box b1 kvD13_1 27 :: box b [.slice a L.length c, iv (nxE L (nuE L je5 ja5 0 1000) (nxA L je5 ja5)), iv (nxA L (nuE L je5 ja5 0 1000) (nxA L je5 ja5)), iv (nxB L (nuE L je5 ja5 0 1000) (nxA L je5 ja5) (nuB L je5 ja5 jb5 0 1000))] 75 :: rowOf tkE a c 78 4 L :: rowOf drE da dc 27 5 acc :: L0) w29 := S66.front 4 rfl
       clear S66
       obtain ⟨hr7, ht4⟩ := next_ok (L := L) (st := (ls7 L (fullD acc) (bfD acc))) (k := 6) (j := 6) (j2 := 7) hr6 hhb6 rfl rfl
       have hhb7 := nxA_bounds (e := nuE L je5 ja5 0 1000) hhb6
       refine J.run 20 K36_37 [(26, .pointer (some ⟨b6, 0, none⟩)), (25, .string (nxT L (nuE L je5 ja5 0 1000) (nxA L je5 ja5))), (6, iv 3), (7, .pointer (some ⟨b6, 0, none⟩)), (10, iv 3), (9, .agg kvD13_7), (5, .pointer (some ⟨b2, 0, none⟩)), (4, .pointer (some ⟨b1, 0, none⟩)), (0, .pointer (some ⟨b, 0, none⟩)), (1, .slice da acc.length dc)] w29 (by kernel_rfl) ?_
       refine J.ok (OK.ldBox S67 0 27 9 0 (.string ⟨#[103, 101, 97, 114]⟩) (by kernel_rfl) rfl (by kernel_rfl)) ?_
       refine J.run 2 K36_38 [(28, .bool (!((nxT L (nuE L je5 ja5 0 1000) (nxA L je5 ja5)).toList == (⟨#[103, 101, 97, 114]⟩ : ByteArray).toList))), (6, iv 3), (7, .pointer (some ⟨b6, 0, none⟩)), (10, iv 3), (9, .agg kvD13_7), (5, .pointer (some ⟨b2, 0, none⟩)), (4, .pointer (some ⟨b1, 0, none⟩)), (0, .pointer (some ⟨b, 0, none⟩)), (1, .slice da acc.length dc)] w29 (by kernel_rfl) ?_
       have X7 : ∀ (je6 : Int) (ja6 : Int) (jb6 : Int) (w30 : World), (RSok (ls8 L (fullD acc) (bfD acc)) je6 ja6 jb6 7) → (0 ≤ ja6 ∧ ja6 ≤ (L.length : Int)) → Sep w0 (box b6 kvD13_6 51 :: box b2 [iv (nuX L je2 ja2), iv (nuX L je4 ja4), iv (nuX L je5 ja5), iv 0, iv 0] 48 :: box b1 kvD13_1 27 :: box b [.slice a L.length c, iv je6, iv ja6, iv jb6] 75 :: rowOf tkE a c 78 4 L :: rowOf drE da dc 27 5 acc :: L0) w30 → J Tryd.prog 36 96 R K36_39 [(6, iv 3), (7, .pointer (some ⟨b6, 0, none⟩)), (10, iv 3), (9, .agg kvD13_7), (5, .pointer (some ⟨b2, 0, none⟩)), (4, .pointer (some ⟨b1, 0, none⟩)), (0, .pointer (some ⟨b, 0, none⟩)), (1, .slice da acc.length dc)] w30 := by
        intro je6 ja6 jb6 w30 hj6 hk6 S68
        skip
        refine J.run 4 K36_40 [(32, .pointer (some ⟨b, 0, none⟩)), (31, iv 3), (6, iv 3), (7, .pointer (some ⟨b6, 0, none⟩)), (10, iv 3), (9, .agg kvD13_7), (5, .pointer (some ⟨b2, 0, none⟩)), (4, .pointer (some ⟨b1, 0, none⟩)), (0, .pointer (some ⟨b, 0, none⟩)), (1, .slice da acc.length dc)] w30 (by kernel_rfl) ?_
        refine J.ok (OK.ldBox S68 0 33 51 0 (.agg #[.string ⟨#[103, 101, 97, 114]⟩, iv 0, iv 6]) (by kernel_rfl) rfl (by kernel_rfl)) ?_
        have S69 := S68.front 4 rfl
        clear S68
        have S70 : Sep w0 (box b [.slice a L.length c, iv je6, iv ja6, iv jb6] 75 :: rowOf tkE a c 78 4 L :: box b6 kvD13_6 51 :: box b2 [iv (nuX L je2 ja2), iv (nuX L je4 ja4), iv (nuX L je5 ja5), iv 0, iv 0] 48 :: box b1 kvD13_1 27 :: rowOf drE da dc 27 5 acc :: L0) w30 := S69.front 4 rfl
        clear S69
        refine J.callF 34 50 #[.pointer (some ⟨b, 0, none⟩), .agg #[.string ⟨#[103, 101, 97, 114]⟩, iv 0, iv 6]] hb50 (by kernel_rfl) (number_any b a c L je6 ja6 jb6 (⟨#[103, 101, 97, 114]⟩ : ByteArray) 0 6 _ _ _ S70 (by omega) (by omega) hts (by omega) hW0) ?_
        rintro _ w31 ⟨rfl, S71⟩
        replace S71 : Sep w0 (box b [.slice a L.length c, iv (nuE L je6 ja6 0 6), iv (nxA L je6 ja6), iv (nuB L je6 ja6 jb6 0 6)] 75 :: rowOf tkE a c 78 4 L :: box b6 kvD13_6 51 :: box b2 [iv (nuX L je2 ja2), iv (nuX L je4 ja4), iv (nuX L je5 ja5), iv 0, iv 0] 48 :: box b1 kvD13_1 27 :: rowOf drE da dc 27 5 acc :: L0) w31 := S71
        clear S70
        have S72 := S71.front 4 rfl
        clear S71
        have S73 := S72.front 4 rfl
        clear S72
        have S74 : Sep w0 (box b6 kvD13_6 51 :: box b2 [iv (nuX L je2 ja2), iv (nuX L je4 ja4), iv (nuX L je5 ja5), iv 0, iv 0] 48 :: box b1 kvD13_1 27 :: box b [.slice a L.length c, iv (nuE L je6 ja6 0 6), iv (nxA L je6 ja6), iv (nuB L je6 ja6 jb6 0 6)] 75 :: rowOf tkE a c 78 4 L :: rowOf drE da dc 27 5 acc :: L0) w31 := S73.front 4 rfl
        clear S73
        obtain ⟨hr8, hn4⟩ := num_ok (L := L) (st := ls8 L (fullD acc) (bfD acc)) (k := 7) (j := 7) (j2 := 8) (lo := 0) (hi := 6) hj6 hk6 rfl rfl
        have hhb8 := nxA_bounds (e := je6) hk6
        refine J.ok (OK.indexP 35 48 5 1 b2 0 3 3 (by kernel_rfl) (by kernel_rfl) (by omega) (by omega)) ?_
        refine J.head (.pointer (some ⟨b2, 3, none⟩)) (by first | rfl | (rw [Nat.zero_add, Nat.mul_one])) ?_
        refine J.stBox S74 1 3 3 (iv (nuX L je6 ja6)) [iv (nuX L je2 ja2), iv (nuX L je4 ja4), iv (nuX L je5 ja5), iv (nuX L je6 ja6), iv 0] (box b6 kvD13_6 51 :: box b2 [iv (nuX L je2 ja2), iv (nuX L je4 ja4), iv (nuX L je5 ja5), iv (nuX L je6 ja6), iv 0] 48 :: box b1 kvD13_1 27 :: box b [.slice a L.length c, iv (nuE L je6 ja6 0 6), iv (nxA L je6 ja6), iv (nuB L je6 ja6 jb6 0 6)] 75 :: rowOf tkE a c 78 4 L :: rowOf drE da dc 27 5 acc :: L0) (by kernel_rfl) rfl (by kernel_rfl) (by kernel_rfl) rfl ?_
        intro w32 S75
        refine J.run 2 K36_41 [(6, iv 3), (10, iv 3), (9, .agg kvD13_7), (5, .pointer (some ⟨b2, 0, none⟩)), (4, .pointer (some ⟨b1, 0, none⟩)), (0, .pointer (some ⟨b, 0, none⟩)), (1, .slice da acc.length dc)] w32 (by kernel_rfl) ?_
        refine J.drawStill S75 29 Tryd.mixed (by kernel_rfl) (by kernel_rfl) (by kernel_rfl) ?_
        intro w33 S76
        refine SL.ok (by decide) (OK.run 36 (iv 3) (by kernel_rfl)) ?_
        refine SL.ok (by decide) (OK.run 37 (.bool false) (by kernel_rfl)) ?_
        refine SL.ok (by decide) (OK.run 38 (.bool false) (by kernel_rfl)) ?_
        refine SL.pass (d := some 39) (by decide) (by kernel_rfl) ?_
        refine SL.pass (d := some 40) (by decide) (by kernel_rfl) ?_
        refine SL.pass (d := some 41) (by decide) (by kernel_rfl) ?_
        refine SL.pass (d := some 42) (by decide) (by kernel_rfl) ?_
        refine SL.pass (d := some 43) (by decide) (by kernel_rfl) ?_
        refine SL.pass (d := some 44) (by decide) (by kernel_rfl) ?_
        refine SL.pass (d := some 45) (by decide) (by kernel_rfl) ?_
        refine SL.pass (d := some 46) (by decide) (by kernel_rfl) ?_
        refine SL.pass (d := some 47) (by decide) (by kernel_rfl) ?_
        refine SL.pass (d := some 48) (by decide) (by kernel_rfl) ?_
        refine SL.pass (d := some 49) (by decide) (by kernel_rfl) ?_
        refine SL.pass (d := some 50) (by decide) (by kernel_rfl) ?_
        refine SL.pass (d := some 51) (by decide) (by kernel_rfl) ?_
        refine SL.pass (d := some 52) (by decide) (by kernel_rfl) ?_
        refine SL.pass (d := some 53) (by decide) (by kernel_rfl) ?_
        refine SL.pass (d := some 54) (by decide) (by kernel_rfl) ?_
        refine SL.pass (d := some 55) (by decide) (by kernel_rfl) ?_
        refine SL.pass (d := some 56) (by decide) (by kernel_rfl) ?_
        refine SL.pass (d := some 57) (by decide) (by kernel_rfl) ?_
        refine SL.pass (d := some 58) (by decide) (by kernel_rfl) ?_
        refine SL.pass (d := some 59) (by decide) (by kernel_rfl) ?_
        refine SL.pass (d := some 60) (by decide) (by kernel_rfl) ?_
        refine SL.pass (d := some 61) (by decide) (by kernel_rfl) ?_
        refine SL.pass (d := some 62) (by decide) (by kernel_rfl) ?_
        refine SL.pass (d := some 63) (by decide) (by kernel_rfl) ?_
        refine SL.ok (by decide) (OK.run 64 (.bool false) (by kernel_rfl)) ?_
        refine SL.done ?_
        refine TL.done (by kernel_rfl) ?_
        refine J.run 0 (rRest K36_41) [(64, .bool false), (10, iv 3), (9, .agg kvD13_7), (5, .pointer (some ⟨b2, 0, none⟩)), (4, .pointer (some ⟨b1, 0, none⟩)), (0, .pointer (some ⟨b, 0, none⟩)), (1, .slice da acc.length dc)] w33 (by kernel_rfl) ?_
        refine J.run 8 K36_42 [(10, iv 4), (9, .agg kvD13_7), (5, .pointer (some ⟨b2, 0, none⟩)), (4, .pointer (some ⟨b1, 0, none⟩)), (0, .pointer (some ⟨b, 0, none⟩)), (1, .slice da acc.length dc)] w33 (by kernel_rfl) ?_
        have S77 : Sep w0 (box b2 [iv (nuX L je2 ja2), iv (nuX L je4 ja4), iv (nuX L je5 ja5), iv (nuX L je6 ja6), iv 0] 48 :: box b1 kvD13_1 27 :: box b [.slice a L.length c, iv (nuE L je6 ja6 0 6), iv (nxA L je6 ja6), iv (nuB L je6 ja6 jb6 0 6)] 75 :: rowOf tkE a c 78 4 L :: rowOf drE da dc 27 5 acc :: L0) w33 := S76.erase 0
        clear S76
        refine J.run 13 K36_43 [(13, .agg #[.string ⟨#[108, 111, 97, 100]⟩, iv (-500), iv 2000]), (12, iv 4), (10, iv 4), (9, .agg kvD13_7), (5, .pointer (some ⟨b2, 0, none⟩)), (4, .pointer (some ⟨b1, 0, none⟩)), (0, .pointer (some ⟨b, 0, none⟩)), (1, .slice da acc.length dc)] w33 (by kernel_rfl) ?_
        refine J.new S77 7 [.string ByteArray.empty, iv 0, iv 0] 51 (by kernel_rfl) ?_
        intro b7 w34 S78
        refine J.run 1 K36_44 [(6, iv 4), (7, .pointer (some ⟨b7, 0, none⟩)), (13, .agg #[.string ⟨#[108, 111, 97, 100]⟩, iv (-500), iv 2000]), (10, iv 4), (9, .agg kvD13_7), (5, .pointer (some ⟨b2, 0, none⟩)), (4, .pointer (some ⟨b1, 0, none⟩)), (0, .pointer (some ⟨b, 0, none⟩)), (1, .slice da acc.length dc)] w34 (by kernel_rfl) ?_
        refine J.stBox S78 0 51 0 (.agg #[.string ⟨#[108, 111, 97, 100]⟩, iv (-500), iv 2000]) kvD13_4 (box b7 kvD13_4 51 :: box b2 [iv (nuX L je2 ja2), iv (nuX L je4 ja4), iv (nuX L je5 ja5), iv (nuX L je6 ja6), iv 0] 48 :: box b1 kvD13_1 27 :: box b [.slice a L.length c, iv (nuE L je6 ja6 0 6), iv (nxA L je6 ja6), iv (nuB L je6 ja6 jb6 0 6)] 75 :: rowOf tkE a c 78 4 L :: rowOf drE da dc 27 5 acc :: L0) (by kernel_rfl) rfl (by kernel_rfl) (by kernel_rfl) rfl ?_
        intro w35 S79
        refine J.run 4 K36_45 [(14, .pointer (some ⟨b, 0, none⟩)), (6, iv 4), (7, .pointer (some ⟨b7, 0, none⟩)), (10, iv 4), (9, .agg kvD13_7), (5, .pointer (some ⟨b2, 0, none⟩)), (4, .pointer (some ⟨b1, 0, none⟩)), (0, .pointer (some ⟨b, 0, none⟩)), (1, .slice da acc.length dc)] w35 (by kernel_rfl) ?_
        have S80 := S79.front 4 rfl
        clear S79
        have S81 : Sep w0 (box b [.slice a L.length c, iv (nuE L je6 ja6 0 6), iv (nxA L je6 ja6), iv (nuB L je6 ja6 jb6 0 6)] 75 :: rowOf tkE a c 78 4 L :: box b7 kvD13_4 51 :: box b2 [iv (nuX L je2 ja2), iv (nuX L je4 ja4), iv (nuX L je5 ja5), iv (nuX L je6 ja6), iv 0] 48 :: box b1 kvD13_1 27 :: rowOf drE da dc 27 5 acc :: L0) w35 := S80.front 4 rfl
        clear S80
        refine J.callF 15 48 #[.pointer (some ⟨b, 0, none⟩)] hb48 (by kernel_rfl) (next_any b a c L (nuE L je6 ja6 0 6) (nxA L je6 ja6) (nuB L je6 ja6 jb6 0 6) _ _ _ S81 (by omega) (by omega)) ?_
        rintro _ w36 ⟨rfl, S82⟩
        replace S82 : Sep w0 (box b [.slice a L.length c, iv (nxE L (nuE L je6 ja6 0 6) (nxA L je6 ja6)), iv (nxA L (nuE L je6 ja6 0 6) (nxA L je6 ja6)), iv (nxB L (nuE L je6 ja6 0 6) (nxA L je6 ja6) (nuB L je6 ja6 jb6 0 6))] 75 :: rowOf tkE a c 78 4 L :: box b7 kvD13_4 51 :: box b2 [iv (nuX L je2 ja2), iv (nuX L je4 ja4), iv (nuX L je5 ja5), iv (nuX L je6 ja6), iv 0] 48 :: box b1 kvD13_1 27 :: rowOf drE da dc 27 5 acc :: L0) w36 := S82
        clear S81
        have S83 := S82.front 4 rfl
        clear S82
        have S84 := S83.front 4 rfl
        clear S83
        have S85 : Sep w0 (box b7 kvD13_4 51 :: box b2 [iv (nuX L je2 ja2), iv (nuX L je4 ja4), iv (nuX L je5 ja5), iv (nuX L je6 ja6), iv 0] 48 :: box b1 kvD13_1 27 :: box b [.slice a L.length c, iv (nxE L (nuE L je6 ja6 0 6) (nxA L je6 ja6)), iv (nxA L (nuE L je6 ja6 0 6) (nxA L je6 ja6)), iv (nxB L (nuE L je6 ja6 0 6) (nxA L je6 ja6) (nuB L je6 ja6 jb6 0 6))] 75 :: rowOf tkE a c 78 4 L :: rowOf drE da dc 27 5 acc :: L0) w36 := S84.front 4 rfl
        clear S84
        obtain ⟨hr9, ht5⟩ := next_ok (L := L) (st := (ls9 L (fullD acc) (bfD acc))) (k := 8) (j := 8) (j2 := 9) hr8 hhb8 rfl rfl
        have hhb9 := nxA_bounds (e := nuE L je6 ja6 0 6) hhb8
        refine J.run 20 K36_46 [(26, .pointer (some ⟨b7, 0, none⟩)), (25, .string (nxT L (nuE L je6 ja6 0 6) (nxA L je6 ja6))), (6, iv 4), (7, .pointer (some ⟨b7, 0, none⟩)), (10, iv 4), (9, .agg kvD13_7), (5, .pointer (some ⟨b2, 0, none⟩)), (4, .pointer (some ⟨b1, 0, none⟩)), (0, .pointer (some ⟨b, 0, none⟩)), (1, .slice da acc.length dc)] w36 (by kernel_rfl) ?_
        refine J.ok (OK.ldBox S85 0 27 9 0 (.string ⟨#[108, 111, 97, 100]⟩) (by kernel_rfl) rfl (by kernel_rfl)) ?_
        refine J.run 2 K36_47 [(28, .bool (!((nxT L (nuE L je6 ja6 0 6) (nxA L je6 ja6)).toList == (⟨#[108, 111, 97, 100]⟩ : ByteArray).toList))), (6, iv 4), (7, .pointer (some ⟨b7, 0, none⟩)), (10, iv 4), (9, .agg kvD13_7), (5, .pointer (some ⟨b2, 0, none⟩)), (4, .pointer (some ⟨b1, 0, none⟩)), (0, .pointer (some ⟨b, 0, none⟩)), (1, .slice da acc.length dc)] w36 (by kernel_rfl) ?_
        have X8 : ∀ (je7 : Int) (ja7 : Int) (jb7 : Int) (w37 : World), (RSok (ls10 L (fullD acc) (bfD acc)) je7 ja7 jb7 9) → (0 ≤ ja7 ∧ ja7 ≤ (L.length : Int)) → Sep w0 (box b7 kvD13_4 51 :: box b2 [iv (nuX L je2 ja2), iv (nuX L je4 ja4), iv (nuX L je5 ja5), iv (nuX L je6 ja6), iv 0] 48 :: box b1 kvD13_1 27 :: box b [.slice a L.length c, iv je7, iv ja7, iv jb7] 75 :: rowOf tkE a c 78 4 L :: rowOf drE da dc 27 5 acc :: L0) w37 → J Tryd.prog 36 96 R K36_48 [(6, iv 4), (7, .pointer (some ⟨b7, 0, none⟩)), (10, iv 4), (9, .agg kvD13_7), (5, .pointer (some ⟨b2, 0, none⟩)), (4, .pointer (some ⟨b1, 0, none⟩)), (0, .pointer (some ⟨b, 0, none⟩)), (1, .slice da acc.length dc)] w37 := by
         intro je7 ja7 jb7 w37 hj7 hk7 S86
         skip
         refine J.run 4 K36_49 [(32, .pointer (some ⟨b, 0, none⟩)), (31, iv 4), (6, iv 4), (7, .pointer (some ⟨b7, 0, none⟩)), (10, iv 4), (9, .agg kvD13_7), (5, .pointer (some ⟨b2, 0, none⟩)), (4, .pointer (some ⟨b1, 0, none⟩)), (0, .pointer (some ⟨b, 0, none⟩)), (1, .slice da acc.length dc)] w37 (by kernel_rfl) ?_
         refine J.ok (OK.ldBox S86 0 33 51 0 (.agg #[.string ⟨#[108, 111, 97, 100]⟩, iv (-500), iv 2000]) (by kernel_rfl) rfl (by kernel_rfl)) ?_
         have S87 := S86.front 4 rfl
         clear S86
         have S88 : Sep w0 (box b [.slice a L.length c, iv je7, iv ja7, iv jb7] 75 :: rowOf tkE a c 78 4 L :: box b7 kvD13_4 51 :: box b2 [iv (nuX L je2 ja2), iv (nuX L je4 ja4), iv (nuX L je5 ja5), iv (nuX L je6 ja6), iv 0] 48 :: box b1 kvD13_1 27 :: rowOf drE da dc 27 5 acc :: L0) w37 := S87.front 4 rfl
         clear S87
         refine J.callF 34 50 #[.pointer (some ⟨b, 0, none⟩), .agg #[.string ⟨#[108, 111, 97, 100]⟩, iv (-500), iv 2000]] hb50 (by kernel_rfl) (number_any b a c L je7 ja7 jb7 (⟨#[108, 111, 97, 100]⟩ : ByteArray) (-500) 2000 _ _ _ S88 (by omega) (by omega) hts (by omega) hW0) ?_
         rintro _ w38 ⟨rfl, S89⟩
         replace S89 : Sep w0 (box b [.slice a L.length c, iv (nuE L je7 ja7 (-500) 2000), iv (nxA L je7 ja7), iv (nuB L je7 ja7 jb7 (-500) 2000)] 75 :: rowOf tkE a c 78 4 L :: box b7 kvD13_4 51 :: box b2 [iv (nuX L je2 ja2), iv (nuX L je4 ja4), iv (nuX L je5 ja5), iv (nuX L je6 ja6), iv 0] 48 :: box b1 kvD13_1 27 :: rowOf drE da dc 27 5 acc :: L0) w38 := S89
         clear S88
         have S90 := S89.front 4 rfl
         clear S89
         have S91 := S90.front 4 rfl
         clear S90
         have S92 : Sep w0 (box b7 kvD13_4 51 :: box b2 [iv (nuX L je2 ja2), iv (nuX L je4 ja4), iv (nuX L je5 ja5), iv (nuX L je6 ja6), iv 0] 48 :: box b1 kvD13_1 27 :: box b [.slice a L.length c, iv (nuE L je7 ja7 (-500) 2000), iv (nxA L je7 ja7), iv (nuB L je7 ja7 jb7 (-500) 2000)] 75 :: rowOf tkE a c 78 4 L :: rowOf drE da dc 27 5 acc :: L0) w38 := S91.front 4 rfl
         clear S91
         obtain ⟨hr10, hn5⟩ := num_ok (L := L) (st := ls10 L (fullD acc) (bfD acc)) (k := 9) (j := 9) (j2 := 10) (lo := (-500)) (hi := 2000) hj7 hk7 rfl rfl
         have hhb10 := nxA_bounds (e := je7) hk7
         refine J.ok (OK.indexP 35 48 5 1 b2 0 4 4 (by kernel_rfl) (by kernel_rfl) (by omega) (by omega)) ?_
         refine J.head (.pointer (some ⟨b2, 4, none⟩)) (by first | rfl | (rw [Nat.zero_add, Nat.mul_one])) ?_
         refine J.stBox S92 1 3 4 (iv (nuX L je7 ja7)) [iv (nuX L je2 ja2), iv (nuX L je4 ja4), iv (nuX L je5 ja5), iv (nuX L je6 ja6), iv (nuX L je7 ja7)] (box b7 kvD13_4 51 :: box b2 [iv (nuX L je2 ja2), iv (nuX L je4 ja4), iv (nuX L je5 ja5), iv (nuX L je6 ja6), iv (nuX L je7 ja7)] 48 :: box b1 kvD13_1 27 :: box b [.slice a L.length c, iv (nuE L je7 ja7 (-500) 2000), iv (nxA L je7 ja7), iv (nuB L je7 ja7 jb7 (-500) 2000)] 75 :: rowOf tkE a c 78 4 L :: rowOf drE da dc 27 5 acc :: L0) (by kernel_rfl) rfl (by kernel_rfl) (by kernel_rfl) rfl ?_
         intro w39 S93
         refine J.run 2 K36_50 [(6, iv 4), (10, iv 4), (9, .agg kvD13_7), (5, .pointer (some ⟨b2, 0, none⟩)), (4, .pointer (some ⟨b1, 0, none⟩)), (0, .pointer (some ⟨b, 0, none⟩)), (1, .slice da acc.length dc)] w39 (by kernel_rfl) ?_
         refine J.drawStill S93 29 Tryd.mixed (by kernel_rfl) (by kernel_rfl) (by kernel_rfl) ?_
         intro w40 S94
         refine SL.ok (by decide) (OK.run 36 (iv 4) (by kernel_rfl)) ?_
         refine SL.ok (by decide) (OK.run 37 (.bool false) (by kernel_rfl)) ?_
         refine SL.ok (by decide) (OK.run 38 (.bool false) (by kernel_rfl)) ?_
         refine SL.pass (d := some 39) (by decide) (by kernel_rfl) ?_
         refine SL.pass (d := some 40) (by decide) (by kernel_rfl) ?_
         refine SL.pass (d := some 41) (by decide) (by kernel_rfl) ?_
         refine SL.pass (d := some 42) (by decide) (by kernel_rfl) ?_
         refine SL.pass (d := some 43) (by decide) (by kernel_rfl) ?_
         refine SL.pass (d := some 44) (by decide) (by kernel_rfl) ?_
         refine SL.pass (d := some 45) (by decide) (by kernel_rfl) ?_
         refine SL.pass (d := some 46) (by decide) (by kernel_rfl) ?_
         refine SL.pass (d := some 47) (by decide) (by kernel_rfl) ?_
         refine SL.pass (d := some 48) (by decide) (by kernel_rfl) ?_
         refine SL.pass (d := some 49) (by decide) (by kernel_rfl) ?_
         refine SL.pass (d := some 50) (by decide) (by kernel_rfl) ?_
         refine SL.pass (d := some 51) (by decide) (by kernel_rfl) ?_
         refine SL.pass (d := some 52) (by decide) (by kernel_rfl) ?_
         refine SL.pass (d := some 53) (by decide) (by kernel_rfl) ?_
         refine SL.pass (d := some 54) (by decide) (by kernel_rfl) ?_
         refine SL.pass (d := some 55) (by decide) (by kernel_rfl) ?_
         refine SL.pass (d := some 56) (by decide) (by kernel_rfl) ?_
         refine SL.pass (d := some 57) (by decide) (by kernel_rfl) ?_
         refine SL.pass (d := some 58) (by decide) (by kernel_rfl) ?_
         refine SL.pass (d := some 59) (by decide) (by kernel_rfl) ?_
         refine SL.pass (d := some 60) (by decide) (by kernel_rfl) ?_
         refine SL.pass (d := some 61) (by decide) (by kernel_rfl) ?_
         refine SL.pass (d := some 62) (by decide) (by kernel_rfl) ?_
         refine SL.pass (d := some 63) (by decide) (by kernel_rfl) ?_
         refine SL.ok (by decide) (OK.run 64 (.bool false) (by kernel_rfl)) ?_
         refine SL.done ?_
         refine TL.done (by kernel_rfl) ?_
         refine J.run 0 (rRest K36_50) [(64, .bool false), (10, iv 4), (9, .agg kvD13_7), (5, .pointer (some ⟨b2, 0, none⟩)), (4, .pointer (some ⟨b1, 0, none⟩)), (0, .pointer (some ⟨b, 0, none⟩)), (1, .slice da acc.length dc)] w40 (by kernel_rfl) ?_
         refine J.run 8 K36_51 [(10, iv 5), (9, .agg kvD13_7), (5, .pointer (some ⟨b2, 0, none⟩)), (4, .pointer (some ⟨b1, 0, none⟩)), (0, .pointer (some ⟨b, 0, none⟩)), (1, .slice da acc.length dc)] w40 (by kernel_rfl) ?_
         have S95 : Sep w0 (box b2 [iv (nuX L je2 ja2), iv (nuX L je4 ja4), iv (nuX L je5 ja5), iv (nuX L je6 ja6), iv (nuX L je7 ja7)] 48 :: box b1 kvD13_1 27 :: box b [.slice a L.length c, iv (nuE L je7 ja7 (-500) 2000), iv (nxA L je7 ja7), iv (nuB L je7 ja7 jb7 (-500) 2000)] 75 :: rowOf tkE a c 78 4 L :: rowOf drE da dc 27 5 acc :: L0) w40 := S94.erase 0
         clear S94
         refine J.run 9 K36_52 [(5, .pointer (some ⟨b2, 0, none⟩)), (4, .pointer (some ⟨b1, 0, none⟩)), (0, .pointer (some ⟨b, 0, none⟩))] w40 (by kernel_rfl) ?_
         by_cases fk1 : (nuE L je7 ja7 (-500) 2000) = 0
         ·skip
          refine J.drawStill S95 17 Tryd.mixed (by kernel_rfl) (by kernel_rfl) (by kernel_rfl) ?_
          intro w41 S96
          refine SL.ok (by decide) (OK.run 68 (.pointer (some ⟨b, 0, none⟩)) (by kernel_rfl)) ?_
          refine SL.ok (by decide) (OK.run 69 (.pointer (some ⟨b, 0, none⟩)) (by kernel_rfl)) ?_
          refine SL.ok (by decide) (OK.run 70 (.pointer (some ⟨b, 1, none⟩)) (by kernel_rfl)) ?_
          refine SL.ok (by decide) (OK.ldBox S96 2 71 28 1 (iv (nuE L je7 ja7 (-500) 2000)) (by kernel_rfl) rfl (by kernel_rfl)) ?_
          refine SL.ok (by decide) (OK.run 72 (.bool ((nuE L je7 ja7 (-500) 2000) == 0)) (by kernel_rfl)) ?_
          refine SL.head (.bool true) (congrArg Value.bool (beq_iff_eq.2 fk1)) ?_
          refine SL.ok (by decide) (OK.run 73 (.bool true) (by kernel_rfl)) ?_
          refine SL.ok (by decide) (OK.run 74 (.pointer (some ⟨b, 0, none⟩)) (by kernel_rfl)) ?_
          refine SL.ok (by decide) (OK.run 75 (.pointer (some ⟨b, 0, none⟩)) (by kernel_rfl)) ?_
          refine SL.ok (by decide) (OK.run 76 (.pointer (some ⟨b, 2, none⟩)) (by kernel_rfl)) ?_
          refine SL.ok (by decide) (OK.ldBox S96 2 77 3 2 (iv (nxA L je7 ja7)) (by kernel_rfl) rfl (by kernel_rfl)) ?_
          refine SL.ok (by decide) (OK.run 78 (.pointer (some ⟨b, 0, none⟩)) (by kernel_rfl)) ?_
          refine SL.ok (by decide) (OK.run 79 (.pointer (some ⟨b, 0, none⟩)) (by kernel_rfl)) ?_
          refine SL.ok (by decide) (OK.run 80 (.pointer (some ⟨b, 0, none⟩)) (by kernel_rfl)) ?_
          refine SL.ok (by decide) (OK.ldBox S96 2 81 71 0 (.slice a L.length c) (by kernel_rfl) rfl (by kernel_rfl)) ?_
          refine SL.ok (by decide) (OK.run 82 (iv (L.length : Int)) (by kernel_rfl)) ?_
          refine SL.ok (by decide) (OK.run 83 (.bool (decide ((nxA L je7 ja7) < (L.length : Int)))) (by kernel_rfl)) ?_
          refine SL.ok (by decide) (OK.run 84 (.bool (decide ((nxA L je7 ja7) < (L.length : Int)))) (by kernel_rfl)) ?_
          refine SL.done ?_
          refine TL.done (by kernel_rfl) ?_
          refine J.run 0 (rRest K36_52) [(84, .bool (decide ((nxA L je7 ja7) < (L.length : Int)))), (5, .pointer (some ⟨b2, 0, none⟩)), (4, .pointer (some ⟨b1, 0, none⟩)), (0, .pointer (some ⟨b, 0, none⟩))] w41 (by kernel_rfl) ?_
          by_cases fk2 : (nxA L je7 ja7) < (L.length : Int)
          ·skip
           refine J.head (.bool true) (congrArg Value.bool (decide_eq_true fk2)) ?_
           refine J.run 6 K36_53 [(87, .pointer (some ⟨b, 2, none⟩)), (85, .pointer (some ⟨b, 0, none⟩)), (5, .pointer (some ⟨b2, 0, none⟩)), (4, .pointer (some ⟨b1, 0, none⟩)), (0, .pointer (some ⟨b, 0, none⟩))] w41 (by kernel_rfl) ?_
           refine J.ok (OK.ldBox S96 2 88 3 2 (iv (nxA L je7 ja7)) (by kernel_rfl) rfl (by kernel_rfl)) ?_
           refine J.run 1 K36_54 [(89, iv (IntKind.wrap .i64 ((nxA L je7 ja7) + 1))), (85, .pointer (some ⟨b, 0, none⟩)), (5, .pointer (some ⟨b2, 0, none⟩)), (4, .pointer (some ⟨b1, 0, none⟩)), (0, .pointer (some ⟨b, 0, none⟩))] w41 (by kernel_rfl) ?_
           refine J.head (iv ((nxA L je7 ja7) + 1)) (congrArg (Value.int .i64) (IntWalk.i64_in _ (by omega))) ?_
           refine J.run 2 K36_55 [(91, .pointer (some ⟨b, 2, none⟩)), (89, iv ((nxA L je7 ja7) + 1)), (5, .pointer (some ⟨b2, 0, none⟩)), (4, .pointer (some ⟨b1, 0, none⟩)), (0, .pointer (some ⟨b, 0, none⟩))] w41 (by kernel_rfl) ?_
           refine J.stBox S96 2 3 2 (iv ((nxA L je7 ja7) + 1)) [.slice a L.length c, iv (nuE L je7 ja7 (-500) 2000), iv ((nxA L je7 ja7) + 1), iv (nuB L je7 ja7 jb7 (-500) 2000)] (box b2 [iv (nuX L je2 ja2), iv (nuX L je4 ja4), iv (nuX L je5 ja5), iv (nuX L je6 ja6), iv (nuX L je7 ja7)] 48 :: box b1 kvD13_1 27 :: box b [.slice a L.length c, iv (nuE L je7 ja7 (-500) 2000), iv ((nxA L je7 ja7) + 1), iv (nuB L je7 ja7 jb7 (-500) 2000)] 75 :: rowOf tkE a c 78 4 L :: rowOf drE da dc 27 5 acc :: L0) (by kernel_rfl) rfl (by kernel_rfl) (by kernel_rfl) rfl ?_
           intro w42 S97
           refine J.run 3 K36_56 [(92, .pointer (some ⟨b, 0, none⟩)), (5, .pointer (some ⟨b2, 0, none⟩)), (4, .pointer (some ⟨b1, 0, none⟩))] w42 (by kernel_rfl) ?_
           have S98 : Sep w0 (box b [.slice a L.length c, iv (nuE L je7 ja7 (-500) 2000), iv ((nxA L je7 ja7) + 1), iv (nuB L je7 ja7 jb7 (-500) 2000)] 75 :: box b2 [iv (nuX L je2 ja2), iv (nuX L je4 ja4), iv (nuX L je5 ja5), iv (nuX L je6 ja6), iv (nuX L je7 ja7)] 48 :: box b1 kvD13_1 27 :: rowOf tkE a c 78 4 L :: rowOf drE da dc 27 5 acc :: L0) w42 := S97.front 2 rfl
           clear S97
           refine J.callF 93 49 #[.pointer (some ⟨b, 0, none⟩), iv 3] hb49 (by kernel_rfl) (fail_any b a L.length c (nuE L je7 ja7 (-500) 2000) ((nxA L je7 ja7) + 1) (nuB L je7 ja7 jb7 (-500) 2000) 3 _ _ _ S98 (by omega)) ?_
           rintro _ w43 ⟨rfl, S99⟩
           replace S99 : Sep w0 (box b [.slice a L.length c, iv (flE (nuE L je7 ja7 (-500) 2000) 3), iv ((nxA L je7 ja7) + 1), iv (flB (nuE L je7 ja7 (-500) 2000) ((nxA L je7 ja7) + 1) (nuB L je7 ja7 jb7 (-500) 2000))] 75 :: box b2 [iv (nuX L je2 ja2), iv (nuX L je4 ja4), iv (nuX L je5 ja5), iv (nuX L je6 ja6), iv (nuX L je7 ja7)] 48 :: box b1 kvD13_1 27 :: rowOf tkE a c 78 4 L :: rowOf drE da dc 27 5 acc :: L0) w43 := S99
           clear S98
           have S100 := S99.front 2 rfl
           clear S99
           have S101 : Sep w0 (box b2 [iv (nuX L je2 ja2), iv (nuX L je4 ja4), iv (nuX L je5 ja5), iv (nuX L je6 ja6), iv (nuX L je7 ja7)] 48 :: box b1 kvD13_1 27 :: box b [.slice a L.length c, iv (flE (nuE L je7 ja7 (-500) 2000) 3), iv ((nxA L je7 ja7) + 1), iv (flB (nuE L je7 ja7 (-500) 2000) ((nxA L je7 ja7) + 1) (nuB L je7 ja7 jb7 (-500) 2000))] 75 :: rowOf tkE a c 78 4 L :: rowOf drE da dc 27 5 acc :: L0) w43 := S100.front 2 rfl
           clear S100
           refine J.run 3 K36_57 [(5, .pointer (some ⟨b2, 0, none⟩)), (4, .pointer (some ⟨b1, 0, none⟩))] w43 (by kernel_rfl) ?_
           refine J.ok (OK.ldBox S101 0 94 48 0 (.agg #[iv (nuX L je2 ja2), iv (nuX L je4 ja4), iv (nuX L je5 ja5), iv (nuX L je6 ja6), iv (nuX L je7 ja7)]) (by kernel_rfl) rfl (by kernel_rfl)) ?_
           refine J.callF 95 51 #[.agg #[iv (nuX L je2 ja2), iv (nuX L je4 ja4), iv (nuX L je5 ja5), iv (nuX L je6 ja6), iv (nuX L je7 ja7)]] hb51 (by kernel_rfl) (order_any (nuX L je2 ja2) (nuX L je4 ja4) (nuX L je5 ja5) (nuX L je6 ja6) (nuX L je7 ja7) _) ?_
           rintro _ w44 ⟨rfl, T2⟩
           have S102 : Sep w0 (box b2 [iv (nuX L je2 ja2), iv (nuX L je4 ja4), iv (nuX L je5 ja5), iv (nuX L je6 ja6), iv (nuX L je7 ja7)] 48 :: box b1 kvD13_1 27 :: box b [.slice a L.length c, iv (flE (nuE L je7 ja7 (-500) 2000) 3), iv ((nxA L je7 ja7) + 1), iv (flB (nuE L je7 ja7 (-500) 2000) ((nxA L je7 ja7) + 1) (nuB L je7 ja7 jb7 (-500) 2000))] 75 :: rowOf tkE a c 78 4 L :: rowOf drE da dc 27 5 acc :: L0) w44 := S101.trans T2
           clear T2 S101
           refine J.stBox S102 1 27 0 (.agg #[iv (nuX L je2 ja2), iv (nuX L je4 ja4), iv (nuX L je5 ja5), iv (nuX L je6 ja6), iv (nuX L je7 ja7)]) [iv (nuX L je2 ja2), iv (nuX L je4 ja4), iv (nuX L je5 ja5), iv (nuX L je6 ja6), iv (nuX L je7 ja7)] (box b2 [iv (nuX L je2 ja2), iv (nuX L je4 ja4), iv (nuX L je5 ja5), iv (nuX L je6 ja6), iv (nuX L je7 ja7)] 48 :: box b1 [iv (nuX L je2 ja2), iv (nuX L je4 ja4), iv (nuX L je5 ja5), iv (nuX L je6 ja6), iv (nuX L je7 ja7)] 27 :: box b [.slice a L.length c, iv (flE (nuE L je7 ja7 (-500) 2000) 3), iv ((nxA L je7 ja7) + 1), iv (flB (nuE L je7 ja7 (-500) 2000) ((nxA L je7 ja7) + 1) (nuB L je7 ja7 jb7 (-500) 2000))] 75 :: rowOf tkE a c 78 4 L :: rowOf drE da dc 27 5 acc :: L0) (by kernel_rfl) rfl (by kernel_rfl) (by kernel_rfl) rfl ?_
           intro w45 S103
           refine J.run 1 K36_58 [(4, .pointer (some ⟨b1, 0, none⟩))] w45 (by kernel_rfl) ?_
           refine J.ret Tryd.f36 [.agg #[iv (nuX L je2 ja2), iv (nuX L je4 ja4), iv (nuX L je5 ja5), iv (nuX L je6 ja6), iv (nuX L je7 ja7)]] Tryd.func36 ⟨⟨⟨b1, 0, none⟩, by kernel_rfl, ldV_run (S103.nth 1 rfl) (by kernel_rfl)⟩, trivial⟩ ?_
           refine hR _ _ ?_
           have hf_ : RSok (lineS L (fullD acc) (bfD acc)) (flE (nuE L je7 ja7 (-500) 2000) 3) ((nxA L je7 ja7) + 1) (flB (nuE L je7 ja7 (-500) 2000) ((nxA L je7 ja7) + 1) (nuB L je7 ja7 jb7 (-500) 2000)) 11 := chk_yes (j := 11) (RSok.up (j2 := 11) hr10 (by omega) rfl) (by decide) rfl (fun hn_ => decide_eq_true (by have := RSok.zero hr10 (by omega); omega))
           obtain ⟨e1_, e2_⟩ := hf_.fin
           replace S103 := S103.erase 1
           replace S103 := S103.erase 0
           exact ⟨((nxA L je7 ja7) + 1), ⟨nuX L je2 ja2, nuX L je4 ja4, nuX L je5 ja5, nuX L je6 ja6, nuX L je7 ja7⟩, rfl, fun hn_ => by have q_ := (line_none hn_).1; exact lineV_eq ((hn1 q_.1.1.1).1) ((hn2 q_.1.1.2).1) ((hn3 q_.1.2.1).1) ((hn4 q_.1.2.2).1) ((hn5 q_.2).1), by rw [← e1_, ← e2_]; exact S103⟩
          ·skip
           refine J.head (.bool false) (congrArg Value.bool (decide_eq_false fk2)) ?_
           refine J.run 4 K36_59 [(5, .pointer (some ⟨b2, 0, none⟩)), (4, .pointer (some ⟨b1, 0, none⟩))] w41 (by kernel_rfl) ?_
           refine J.ok (OK.ldBox S96 0 94 48 0 (.agg #[iv (nuX L je2 ja2), iv (nuX L je4 ja4), iv (nuX L je5 ja5), iv (nuX L je6 ja6), iv (nuX L je7 ja7)]) (by kernel_rfl) rfl (by kernel_rfl)) ?_
           refine J.callF 95 51 #[.agg #[iv (nuX L je2 ja2), iv (nuX L je4 ja4), iv (nuX L je5 ja5), iv (nuX L je6 ja6), iv (nuX L je7 ja7)]] hb51 (by kernel_rfl) (order_any (nuX L je2 ja2) (nuX L je4 ja4) (nuX L je5 ja5) (nuX L je6 ja6) (nuX L je7 ja7) _) ?_
           rintro _ w46 ⟨rfl, T3⟩
           have S104 : Sep w0 (box b2 [iv (nuX L je2 ja2), iv (nuX L je4 ja4), iv (nuX L je5 ja5), iv (nuX L je6 ja6), iv (nuX L je7 ja7)] 48 :: box b1 kvD13_1 27 :: box b [.slice a L.length c, iv (nuE L je7 ja7 (-500) 2000), iv (nxA L je7 ja7), iv (nuB L je7 ja7 jb7 (-500) 2000)] 75 :: rowOf tkE a c 78 4 L :: rowOf drE da dc 27 5 acc :: L0) w46 := S96.trans T3
           clear T3 S96
           refine J.stBox S104 1 27 0 (.agg #[iv (nuX L je2 ja2), iv (nuX L je4 ja4), iv (nuX L je5 ja5), iv (nuX L je6 ja6), iv (nuX L je7 ja7)]) [iv (nuX L je2 ja2), iv (nuX L je4 ja4), iv (nuX L je5 ja5), iv (nuX L je6 ja6), iv (nuX L je7 ja7)] (box b2 [iv (nuX L je2 ja2), iv (nuX L je4 ja4), iv (nuX L je5 ja5), iv (nuX L je6 ja6), iv (nuX L je7 ja7)] 48 :: box b1 [iv (nuX L je2 ja2), iv (nuX L je4 ja4), iv (nuX L je5 ja5), iv (nuX L je6 ja6), iv (nuX L je7 ja7)] 27 :: box b [.slice a L.length c, iv (nuE L je7 ja7 (-500) 2000), iv (nxA L je7 ja7), iv (nuB L je7 ja7 jb7 (-500) 2000)] 75 :: rowOf tkE a c 78 4 L :: rowOf drE da dc 27 5 acc :: L0) (by kernel_rfl) rfl (by kernel_rfl) (by kernel_rfl) rfl ?_
           intro w47 S105
           refine J.run 1 K36_60 [(4, .pointer (some ⟨b1, 0, none⟩))] w47 (by kernel_rfl) ?_
           refine J.ret Tryd.f36 [.agg #[iv (nuX L je2 ja2), iv (nuX L je4 ja4), iv (nuX L je5 ja5), iv (nuX L je6 ja6), iv (nuX L je7 ja7)]] Tryd.func36 ⟨⟨⟨b1, 0, none⟩, by kernel_rfl, ldV_run (S105.nth 1 rfl) (by kernel_rfl)⟩, trivial⟩ ?_
           refine hR _ _ ?_
           have hf_ : RSok (lineS L (fullD acc) (bfD acc)) (nuE L je7 ja7 (-500) 2000) (nxA L je7 ja7) (nuB L je7 ja7 jb7 (-500) 2000) 10 := chk_no (j := 10) hr10 (fun hn_ => decide_eq_false (by have := RSok.zero hr10 (by omega); omega))
           obtain ⟨e1_, e2_⟩ := hf_.fin
           replace S105 := S105.erase 1
           replace S105 := S105.erase 0
           exact ⟨(nxA L je7 ja7), ⟨nuX L je2 ja2, nuX L je4 ja4, nuX L je5 ja5, nuX L je6 ja6, nuX L je7 ja7⟩, rfl, fun hn_ => by have q_ := (line_none hn_).1; exact lineV_eq ((hn1 q_.1.1.1).1) ((hn2 q_.1.1.2).1) ((hn3 q_.1.2.1).1) ((hn4 q_.1.2.2).1) ((hn5 q_.2).1), by rw [← e1_, ← e2_]; exact S105⟩
         ·skip
          refine J.drawStill S95 17 Tryd.mixed (by kernel_rfl) (by kernel_rfl) (by kernel_rfl) ?_
          intro w48 S106
          refine SL.ok (by decide) (OK.run 68 (.pointer (some ⟨b, 0, none⟩)) (by kernel_rfl)) ?_
          refine SL.ok (by decide) (OK.run 69 (.pointer (some ⟨b, 0, none⟩)) (by kernel_rfl)) ?_
          refine SL.ok (by decide) (OK.run 70 (.pointer (some ⟨b, 1, none⟩)) (by kernel_rfl)) ?_
          refine SL.ok (by decide) (OK.ldBox S106 2 71 28 1 (iv (nuE L je7 ja7 (-500) 2000)) (by kernel_rfl) rfl (by kernel_rfl)) ?_
          refine SL.ok (by decide) (OK.run 72 (.bool ((nuE L je7 ja7 (-500) 2000) == 0)) (by kernel_rfl)) ?_
          refine SL.head (.bool false) (congrArg Value.bool (beq_eq_false_iff_ne.2 fk1)) ?_
          refine SL.ok (by decide) (OK.run 73 (.bool false) (by kernel_rfl)) ?_
          refine SL.pass (d := some 74) (by decide) (by kernel_rfl) ?_
          refine SL.pass (d := some 75) (by decide) (by kernel_rfl) ?_
          refine SL.pass (d := some 76) (by decide) (by kernel_rfl) ?_
          refine SL.pass (d := some 77) (by decide) (by kernel_rfl) ?_
          refine SL.pass (d := some 78) (by decide) (by kernel_rfl) ?_
          refine SL.pass (d := some 79) (by decide) (by kernel_rfl) ?_
          refine SL.pass (d := some 80) (by decide) (by kernel_rfl) ?_
          refine SL.pass (d := some 81) (by decide) (by kernel_rfl) ?_
          refine SL.pass (d := some 82) (by decide) (by kernel_rfl) ?_
          refine SL.pass (d := some 83) (by decide) (by kernel_rfl) ?_
          refine SL.ok (by decide) (OK.run 84 (.bool false) (by kernel_rfl)) ?_
          refine SL.done ?_
          refine TL.done (by kernel_rfl) ?_
          refine J.run 0 (rRest K36_52) [(84, .bool false), (5, .pointer (some ⟨b2, 0, none⟩)), (4, .pointer (some ⟨b1, 0, none⟩)), (0, .pointer (some ⟨b, 0, none⟩))] w48 (by kernel_rfl) ?_
          refine J.run 4 K36_61 [(5, .pointer (some ⟨b2, 0, none⟩)), (4, .pointer (some ⟨b1, 0, none⟩))] w48 (by kernel_rfl) ?_
          refine J.ok (OK.ldBox S106 0 94 48 0 (.agg #[iv (nuX L je2 ja2), iv (nuX L je4 ja4), iv (nuX L je5 ja5), iv (nuX L je6 ja6), iv (nuX L je7 ja7)]) (by kernel_rfl) rfl (by kernel_rfl)) ?_
          refine J.callF 95 51 #[.agg #[iv (nuX L je2 ja2), iv (nuX L je4 ja4), iv (nuX L je5 ja5), iv (nuX L je6 ja6), iv (nuX L je7 ja7)]] hb51 (by kernel_rfl) (order_any (nuX L je2 ja2) (nuX L je4 ja4) (nuX L je5 ja5) (nuX L je6 ja6) (nuX L je7 ja7) _) ?_
          rintro _ w49 ⟨rfl, T4⟩
          have S107 : Sep w0 (box b2 [iv (nuX L je2 ja2), iv (nuX L je4 ja4), iv (nuX L je5 ja5), iv (nuX L je6 ja6), iv (nuX L je7 ja7)] 48 :: box b1 kvD13_1 27 :: box b [.slice a L.length c, iv (nuE L je7 ja7 (-500) 2000), iv (nxA L je7 ja7), iv (nuB L je7 ja7 jb7 (-500) 2000)] 75 :: rowOf tkE a c 78 4 L :: rowOf drE da dc 27 5 acc :: L0) w49 := S106.trans T4
          clear T4 S106
          refine J.stBox S107 1 27 0 (.agg #[iv (nuX L je2 ja2), iv (nuX L je4 ja4), iv (nuX L je5 ja5), iv (nuX L je6 ja6), iv (nuX L je7 ja7)]) [iv (nuX L je2 ja2), iv (nuX L je4 ja4), iv (nuX L je5 ja5), iv (nuX L je6 ja6), iv (nuX L je7 ja7)] (box b2 [iv (nuX L je2 ja2), iv (nuX L je4 ja4), iv (nuX L je5 ja5), iv (nuX L je6 ja6), iv (nuX L je7 ja7)] 48 :: box b1 [iv (nuX L je2 ja2), iv (nuX L je4 ja4), iv (nuX L je5 ja5), iv (nuX L je6 ja6), iv (nuX L je7 ja7)] 27 :: box b [.slice a L.length c, iv (nuE L je7 ja7 (-500) 2000), iv (nxA L je7 ja7), iv (nuB L je7 ja7 jb7 (-500) 2000)] 75 :: rowOf tkE a c 78 4 L :: rowOf drE da dc 27 5 acc :: L0) (by kernel_rfl) rfl (by kernel_rfl) (by kernel_rfl) rfl ?_
          intro w50 S108
          refine J.run 1 K36_62 [(4, .pointer (some ⟨b1, 0, none⟩))] w50 (by kernel_rfl) ?_
          refine J.ret Tryd.f36 [.agg #[iv (nuX L je2 ja2), iv (nuX L je4 ja4), iv (nuX L je5 ja5), iv (nuX L je6 ja6), iv (nuX L je7 ja7)]] Tryd.func36 ⟨⟨⟨b1, 0, none⟩, by kernel_rfl, ldV_run (S108.nth 1 rfl) (by kernel_rfl)⟩, trivial⟩ ?_
          refine hR _ _ ?_
          have hf_ : RSok (lineS L (fullD acc) (bfD acc)) (nuE L je7 ja7 (-500) 2000) (nxA L je7 ja7) (nuB L je7 ja7 jb7 (-500) 2000) 10 := chk_no (j := 10) hr10 (fun hn_ => absurd hn_ (RSok.bad hr10 (by omega)))
          obtain ⟨e1_, e2_⟩ := hf_.fin
          replace S108 := S108.erase 1
          replace S108 := S108.erase 0
          exact ⟨(nxA L je7 ja7), ⟨nuX L je2 ja2, nuX L je4 ja4, nuX L je5 ja5, nuX L je6 ja6, nuX L je7 ja7⟩, rfl, fun hn_ => by have q_ := (line_none hn_).1; exact lineV_eq ((hn1 q_.1.1.1).1) ((hn2 q_.1.1.2).1) ((hn3 q_.1.2.1).1) ((hn4 q_.1.2.2).1) ((hn5 q_.2).1), by rw [← e1_, ← e2_]; exact S108⟩
        rcases Bool.eq_false_or_eq_true (!((nxT L (nuE L je6 ja6 0 6) (nxA L je6 ja6)).toList == (⟨#[108, 111, 97, 100]⟩ : ByteArray).toList)) with fk3 | fk3
        ·skip
         refine J.head (.bool true) (congrArg Value.bool fk3) ?_
         refine J.run 3 K36_63 [(29, .pointer (some ⟨b, 0, none⟩)), (6, iv 4), (7, .pointer (some ⟨b7, 0, none⟩)), (10, iv 4), (9, .agg kvD13_7), (5, .pointer (some ⟨b2, 0, none⟩)), (4, .pointer (some ⟨b1, 0, none⟩)), (0, .pointer (some ⟨b, 0, none⟩)), (1, .slice da acc.length dc)] w36 (by kernel_rfl) ?_
         have S109 : Sep w0 (box b [.slice a L.length c, iv (nxE L (nuE L je6 ja6 0 6) (nxA L je6 ja6)), iv (nxA L (nuE L je6 ja6 0 6) (nxA L je6 ja6)), iv (nxB L (nuE L je6 ja6 0 6) (nxA L je6 ja6) (nuB L je6 ja6 jb6 0 6))] 75 :: box b7 kvD13_4 51 :: box b2 [iv (nuX L je2 ja2), iv (nuX L je4 ja4), iv (nuX L je5 ja5), iv (nuX L je6 ja6), iv 0] 48 :: box b1 kvD13_1 27 :: rowOf tkE a c 78 4 L :: rowOf drE da dc 27 5 acc :: L0) w36 := S85.front 3 rfl
         clear S85
         refine J.callF 30 49 #[.pointer (some ⟨b, 0, none⟩), iv 3] hb49 (by kernel_rfl) (fail_any b a L.length c (nxE L (nuE L je6 ja6 0 6) (nxA L je6 ja6)) (nxA L (nuE L je6 ja6 0 6) (nxA L je6 ja6)) (nxB L (nuE L je6 ja6 0 6) (nxA L je6 ja6) (nuB L je6 ja6 jb6 0 6)) 3 _ _ _ S109 (by omega)) ?_
         rintro _ w51 ⟨rfl, S110⟩
         replace S110 : Sep w0 (box b [.slice a L.length c, iv (flE (nxE L (nuE L je6 ja6 0 6) (nxA L je6 ja6)) 3), iv (nxA L (nuE L je6 ja6 0 6) (nxA L je6 ja6)), iv (flB (nxE L (nuE L je6 ja6 0 6) (nxA L je6 ja6)) (nxA L (nuE L je6 ja6 0 6) (nxA L je6 ja6)) (nxB L (nuE L je6 ja6 0 6) (nxA L je6 ja6) (nuB L je6 ja6 jb6 0 6)))] 75 :: box b7 kvD13_4 51 :: box b2 [iv (nuX L je2 ja2), iv (nuX L je4 ja4), iv (nuX L je5 ja5), iv (nuX L je6 ja6), iv 0] 48 :: box b1 kvD13_1 27 :: rowOf tkE a c 78 4 L :: rowOf drE da dc 27 5 acc :: L0) w51 := S110
         clear S109
         have S111 := S110.front 3 rfl
         clear S110
         have S112 := S111.front 3 rfl
         clear S111
         have S113 : Sep w0 (box b7 kvD13_4 51 :: box b2 [iv (nuX L je2 ja2), iv (nuX L je4 ja4), iv (nuX L je5 ja5), iv (nuX L je6 ja6), iv 0] 48 :: box b1 kvD13_1 27 :: box b [.slice a L.length c, iv (flE (nxE L (nuE L je6 ja6 0 6) (nxA L je6 ja6)) 3), iv (nxA L (nuE L je6 ja6 0 6) (nxA L je6 ja6)), iv (flB (nxE L (nuE L je6 ja6 0 6) (nxA L je6 ja6)) (nxA L (nuE L je6 ja6 0 6) (nxA L je6 ja6)) (nxB L (nuE L je6 ja6 0 6) (nxA L je6 ja6) (nuB L je6 ja6 jb6 0 6)))] 75 :: rowOf tkE a c 78 4 L :: rowOf drE da dc 27 5 acc :: L0) w51 := S112.front 3 rfl
         clear S112
         refine J.run 1 K36_48 [(6, iv 4), (7, .pointer (some ⟨b7, 0, none⟩)), (10, iv 4), (9, .agg kvD13_7), (5, .pointer (some ⟨b2, 0, none⟩)), (4, .pointer (some ⟨b1, 0, none⟩)), (0, .pointer (some ⟨b, 0, none⟩)), (1, .slice da acc.length dc)] w51 (by kernel_rfl) ?_
         exact X8 (flE (nxE L (nuE L je6 ja6 0 6) (nxA L je6 ja6)) 3) (nxA L (nuE L je6 ja6 0 6) (nxA L je6 ja6)) (flB (nxE L (nuE L je6 ja6 0 6) (nxA L je6 ja6)) (nxA L (nuE L je6 ja6 0 6) (nxA L je6 ja6)) (nxB L (nuE L je6 ja6 0 6) (nxA L je6 ja6) (nuB L je6 ja6 jb6 0 6))) w51 (chk_yes (j := 9) hr9 (by decide) rfl (fun hn_ => by rw [← ht5 hn_]; exact fk3)) (hhb9) S113
        ·skip
         refine J.head (.bool false) (congrArg Value.bool fk3) ?_
         refine J.run 2 K36_48 [(6, iv 4), (7, .pointer (some ⟨b7, 0, none⟩)), (10, iv 4), (9, .agg kvD13_7), (5, .pointer (some ⟨b2, 0, none⟩)), (4, .pointer (some ⟨b1, 0, none⟩)), (0, .pointer (some ⟨b, 0, none⟩)), (1, .slice da acc.length dc)] w36 (by kernel_rfl) ?_
         exact X8 (nxE L (nuE L je6 ja6 0 6) (nxA L je6 ja6)) (nxA L (nuE L je6 ja6 0 6) (nxA L je6 ja6)) (nxB L (nuE L je6 ja6 0 6) (nxA L je6 ja6) (nuB L je6 ja6 jb6 0 6)) w36 (chk_no (j := 9) hr9 (fun hn_ => by rw [← ht5 hn_]; exact fk3)) (hhb9) S85
       rcases Bool.eq_false_or_eq_true (!((nxT L (nuE L je5 ja5 0 1000) (nxA L je5 ja5)).toList == (⟨#[103, 101, 97, 114]⟩ : ByteArray).toList)) with fk4 | fk4
       ·skip
        refine J.head (.bool true) (congrArg Value.bool fk4) ?_
        refine J.run 3 K36_64 [(29, .pointer (some ⟨b, 0, none⟩)), (6, iv 3), (7, .pointer (some ⟨b6, 0, none⟩)), (10, iv 3), (9, .agg kvD13_7), (5, .pointer (some ⟨b2, 0, none⟩)), (4, .pointer (some ⟨b1, 0, none⟩)), (0, .pointer (some ⟨b, 0, none⟩)), (1, .slice da acc.length dc)] w29 (by kernel_rfl) ?_
        have S114 : Sep w0 (box b [.slice a L.length c, iv (nxE L (nuE L je5 ja5 0 1000) (nxA L je5 ja5)), iv (nxA L (nuE L je5 ja5 0 1000) (nxA L je5 ja5)), iv (nxB L (nuE L je5 ja5 0 1000) (nxA L je5 ja5) (nuB L je5 ja5 jb5 0 1000))] 75 :: box b6 kvD13_6 51 :: box b2 [iv (nuX L je2 ja2), iv (nuX L je4 ja4), iv (nuX L je5 ja5), iv 0, iv 0] 48 :: box b1 kvD13_1 27 :: rowOf tkE a c 78 4 L :: rowOf drE da dc 27 5 acc :: L0) w29 := S67.front 3 rfl
        clear S67
        refine J.callF 30 49 #[.pointer (some ⟨b, 0, none⟩), iv 3] hb49 (by kernel_rfl) (fail_any b a L.length c (nxE L (nuE L je5 ja5 0 1000) (nxA L je5 ja5)) (nxA L (nuE L je5 ja5 0 1000) (nxA L je5 ja5)) (nxB L (nuE L je5 ja5 0 1000) (nxA L je5 ja5) (nuB L je5 ja5 jb5 0 1000)) 3 _ _ _ S114 (by omega)) ?_
        rintro _ w52 ⟨rfl, S115⟩
        replace S115 : Sep w0 (box b [.slice a L.length c, iv (flE (nxE L (nuE L je5 ja5 0 1000) (nxA L je5 ja5)) 3), iv (nxA L (nuE L je5 ja5 0 1000) (nxA L je5 ja5)), iv (flB (nxE L (nuE L je5 ja5 0 1000) (nxA L je5 ja5)) (nxA L (nuE L je5 ja5 0 1000) (nxA L je5 ja5)) (nxB L (nuE L je5 ja5 0 1000) (nxA L je5 ja5) (nuB L je5 ja5 jb5 0 1000)))] 75 :: box b6 kvD13_6 51 :: box b2 [iv (nuX L je2 ja2), iv (nuX L je4 ja4), iv (nuX L je5 ja5), iv 0, iv 0] 48 :: box b1 kvD13_1 27 :: rowOf tkE a c 78 4 L :: rowOf drE da dc 27 5 acc :: L0) w52 := S115
        clear S114
        have S116 := S115.front 3 rfl
        clear S115
        have S117 := S116.front 3 rfl
        clear S116
        have S118 : Sep w0 (box b6 kvD13_6 51 :: box b2 [iv (nuX L je2 ja2), iv (nuX L je4 ja4), iv (nuX L je5 ja5), iv 0, iv 0] 48 :: box b1 kvD13_1 27 :: box b [.slice a L.length c, iv (flE (nxE L (nuE L je5 ja5 0 1000) (nxA L je5 ja5)) 3), iv (nxA L (nuE L je5 ja5 0 1000) (nxA L je5 ja5)), iv (flB (nxE L (nuE L je5 ja5 0 1000) (nxA L je5 ja5)) (nxA L (nuE L je5 ja5 0 1000) (nxA L je5 ja5)) (nxB L (nuE L je5 ja5 0 1000) (nxA L je5 ja5) (nuB L je5 ja5 jb5 0 1000)))] 75 :: rowOf tkE a c 78 4 L :: rowOf drE da dc 27 5 acc :: L0) w52 := S117.front 3 rfl
        clear S117
        refine J.run 1 K36_39 [(6, iv 3), (7, .pointer (some ⟨b6, 0, none⟩)), (10, iv 3), (9, .agg kvD13_7), (5, .pointer (some ⟨b2, 0, none⟩)), (4, .pointer (some ⟨b1, 0, none⟩)), (0, .pointer (some ⟨b, 0, none⟩)), (1, .slice da acc.length dc)] w52 (by kernel_rfl) ?_
        exact X7 (flE (nxE L (nuE L je5 ja5 0 1000) (nxA L je5 ja5)) 3) (nxA L (nuE L je5 ja5 0 1000) (nxA L je5 ja5)) (flB (nxE L (nuE L je5 ja5 0 1000) (nxA L je5 ja5)) (nxA L (nuE L je5 ja5 0 1000) (nxA L je5 ja5)) (nxB L (nuE L je5 ja5 0 1000) (nxA L je5 ja5) (nuB L je5 ja5 jb5 0 1000))) w52 (chk_yes (j := 7) hr7 (by decide) rfl (fun hn_ => by rw [← ht4 hn_]; exact fk4)) (hhb7) S118
       ·skip
        refine J.head (.bool false) (congrArg Value.bool fk4) ?_
        refine J.run 2 K36_39 [(6, iv 3), (7, .pointer (some ⟨b6, 0, none⟩)), (10, iv 3), (9, .agg kvD13_7), (5, .pointer (some ⟨b2, 0, none⟩)), (4, .pointer (some ⟨b1, 0, none⟩)), (0, .pointer (some ⟨b, 0, none⟩)), (1, .slice da acc.length dc)] w29 (by kernel_rfl) ?_
        exact X7 (nxE L (nuE L je5 ja5 0 1000) (nxA L je5 ja5)) (nxA L (nuE L je5 ja5 0 1000) (nxA L je5 ja5)) (nxB L (nuE L je5 ja5 0 1000) (nxA L je5 ja5) (nuB L je5 ja5 jb5 0 1000)) w29 (chk_no (j := 7) hr7 (fun hn_ => by rw [← ht4 hn_]; exact fk4)) (hhb7) S67
      rcases Bool.eq_false_or_eq_true (!((nxT L (nuE L je4 ja4 0 1000) (nxA L je4 ja4)).toList == (⟨#[98, 114, 97, 107, 101]⟩ : ByteArray).toList)) with fk5 | fk5
      ·skip
       refine J.head (.bool true) (congrArg Value.bool fk5) ?_
       refine J.run 3 K36_65 [(29, .pointer (some ⟨b, 0, none⟩)), (6, iv 2), (7, .pointer (some ⟨b5, 0, none⟩)), (10, iv 2), (9, .agg kvD13_7), (5, .pointer (some ⟨b2, 0, none⟩)), (4, .pointer (some ⟨b1, 0, none⟩)), (0, .pointer (some ⟨b, 0, none⟩)), (1, .slice da acc.length dc)] w22 (by kernel_rfl) ?_
       have S119 : Sep w0 (box b [.slice a L.length c, iv (nxE L (nuE L je4 ja4 0 1000) (nxA L je4 ja4)), iv (nxA L (nuE L je4 ja4 0 1000) (nxA L je4 ja4)), iv (nxB L (nuE L je4 ja4 0 1000) (nxA L je4 ja4) (nuB L je4 ja4 jb4 0 1000))] 75 :: box b5 kvD13_5 51 :: box b2 [iv (nuX L je2 ja2), iv (nuX L je4 ja4), iv 0, iv 0, iv 0] 48 :: box b1 kvD13_1 27 :: rowOf tkE a c 78 4 L :: rowOf drE da dc 27 5 acc :: L0) w22 := S49.front 3 rfl
       clear S49
       refine J.callF 30 49 #[.pointer (some ⟨b, 0, none⟩), iv 3] hb49 (by kernel_rfl) (fail_any b a L.length c (nxE L (nuE L je4 ja4 0 1000) (nxA L je4 ja4)) (nxA L (nuE L je4 ja4 0 1000) (nxA L je4 ja4)) (nxB L (nuE L je4 ja4 0 1000) (nxA L je4 ja4) (nuB L je4 ja4 jb4 0 1000)) 3 _ _ _ S119 (by omega)) ?_
       rintro _ w53 ⟨rfl, S120⟩
       replace S120 : Sep w0 (box b [.slice a L.length c, iv (flE (nxE L (nuE L je4 ja4 0 1000) (nxA L je4 ja4)) 3), iv (nxA L (nuE L je4 ja4 0 1000) (nxA L je4 ja4)), iv (flB (nxE L (nuE L je4 ja4 0 1000) (nxA L je4 ja4)) (nxA L (nuE L je4 ja4 0 1000) (nxA L je4 ja4)) (nxB L (nuE L je4 ja4 0 1000) (nxA L je4 ja4) (nuB L je4 ja4 jb4 0 1000)))] 75 :: box b5 kvD13_5 51 :: box b2 [iv (nuX L je2 ja2), iv (nuX L je4 ja4), iv 0, iv 0, iv 0] 48 :: box b1 kvD13_1 27 :: rowOf tkE a c 78 4 L :: rowOf drE da dc 27 5 acc :: L0) w53 := S120
       clear S119
       have S121 := S120.front 3 rfl
       clear S120
       have S122 := S121.front 3 rfl
       clear S121
       have S123 : Sep w0 (box b5 kvD13_5 51 :: box b2 [iv (nuX L je2 ja2), iv (nuX L je4 ja4), iv 0, iv 0, iv 0] 48 :: box b1 kvD13_1 27 :: box b [.slice a L.length c, iv (flE (nxE L (nuE L je4 ja4 0 1000) (nxA L je4 ja4)) 3), iv (nxA L (nuE L je4 ja4 0 1000) (nxA L je4 ja4)), iv (flB (nxE L (nuE L je4 ja4 0 1000) (nxA L je4 ja4)) (nxA L (nuE L je4 ja4 0 1000) (nxA L je4 ja4)) (nxB L (nuE L je4 ja4 0 1000) (nxA L je4 ja4) (nuB L je4 ja4 jb4 0 1000)))] 75 :: rowOf tkE a c 78 4 L :: rowOf drE da dc 27 5 acc :: L0) w53 := S122.front 3 rfl
       clear S122
       refine J.run 1 K36_30 [(6, iv 2), (7, .pointer (some ⟨b5, 0, none⟩)), (10, iv 2), (9, .agg kvD13_7), (5, .pointer (some ⟨b2, 0, none⟩)), (4, .pointer (some ⟨b1, 0, none⟩)), (0, .pointer (some ⟨b, 0, none⟩)), (1, .slice da acc.length dc)] w53 (by kernel_rfl) ?_
       exact X6 (flE (nxE L (nuE L je4 ja4 0 1000) (nxA L je4 ja4)) 3) (nxA L (nuE L je4 ja4 0 1000) (nxA L je4 ja4)) (flB (nxE L (nuE L je4 ja4 0 1000) (nxA L je4 ja4)) (nxA L (nuE L je4 ja4 0 1000) (nxA L je4 ja4)) (nxB L (nuE L je4 ja4 0 1000) (nxA L je4 ja4) (nuB L je4 ja4 jb4 0 1000))) w53 (chk_yes (j := 5) hr5 (by decide) rfl (fun hn_ => by rw [← ht3 hn_]; exact fk5)) (hhb5) S123
      ·skip
       refine J.head (.bool false) (congrArg Value.bool fk5) ?_
       refine J.run 2 K36_30 [(6, iv 2), (7, .pointer (some ⟨b5, 0, none⟩)), (10, iv 2), (9, .agg kvD13_7), (5, .pointer (some ⟨b2, 0, none⟩)), (4, .pointer (some ⟨b1, 0, none⟩)), (0, .pointer (some ⟨b, 0, none⟩)), (1, .slice da acc.length dc)] w22 (by kernel_rfl) ?_
       exact X6 (nxE L (nuE L je4 ja4 0 1000) (nxA L je4 ja4)) (nxA L (nuE L je4 ja4 0 1000) (nxA L je4 ja4)) (nxB L (nuE L je4 ja4 0 1000) (nxA L je4 ja4) (nuB L je4 ja4 jb4 0 1000)) w22 (chk_no (j := 5) hr5 (fun hn_ => by rw [← ht3 hn_]; exact fk5)) (hhb5) S49
     rcases Bool.eq_false_or_eq_true (!((nxT L je3 ja3).toList == (⟨#[112, 101, 100, 97, 108]⟩ : ByteArray).toList)) with fk6 | fk6
     ·skip
      refine J.head (.bool true) (congrArg Value.bool fk6) ?_
      refine J.run 3 K36_66 [(29, .pointer (some ⟨b, 0, none⟩)), (6, iv 1), (7, .pointer (some ⟨b4, 0, none⟩)), (10, iv 1), (9, .agg kvD13_7), (5, .pointer (some ⟨b2, 0, none⟩)), (4, .pointer (some ⟨b1, 0, none⟩)), (0, .pointer (some ⟨b, 0, none⟩)), (1, .slice da acc.length dc)] w15 (by kernel_rfl) ?_
      have S124 : Sep w0 (box b [.slice a L.length c, iv (nxE L je3 ja3), iv (nxA L je3 ja3), iv (nxB L je3 ja3 jb3)] 75 :: box b4 kvD13_3 51 :: box b2 [iv (nuX L je2 ja2), iv 0, iv 0, iv 0, iv 0] 48 :: box b1 kvD13_1 27 :: rowOf tkE a c 78 4 L :: rowOf drE da dc 27 5 acc :: L0) w15 := S31.front 3 rfl
      clear S31
      refine J.callF 30 49 #[.pointer (some ⟨b, 0, none⟩), iv 3] hb49 (by kernel_rfl) (fail_any b a L.length c (nxE L je3 ja3) (nxA L je3 ja3) (nxB L je3 ja3 jb3) 3 _ _ _ S124 (by omega)) ?_
      rintro _ w54 ⟨rfl, S125⟩
      replace S125 : Sep w0 (box b [.slice a L.length c, iv (flE (nxE L je3 ja3) 3), iv (nxA L je3 ja3), iv (flB (nxE L je3 ja3) (nxA L je3 ja3) (nxB L je3 ja3 jb3))] 75 :: box b4 kvD13_3 51 :: box b2 [iv (nuX L je2 ja2), iv 0, iv 0, iv 0, iv 0] 48 :: box b1 kvD13_1 27 :: rowOf tkE a c 78 4 L :: rowOf drE da dc 27 5 acc :: L0) w54 := S125
      clear S124
      have S126 := S125.front 3 rfl
      clear S125
      have S127 := S126.front 3 rfl
      clear S126
      have S128 : Sep w0 (box b4 kvD13_3 51 :: box b2 [iv (nuX L je2 ja2), iv 0, iv 0, iv 0, iv 0] 48 :: box b1 kvD13_1 27 :: box b [.slice a L.length c, iv (flE (nxE L je3 ja3) 3), iv (nxA L je3 ja3), iv (flB (nxE L je3 ja3) (nxA L je3 ja3) (nxB L je3 ja3 jb3))] 75 :: rowOf tkE a c 78 4 L :: rowOf drE da dc 27 5 acc :: L0) w54 := S127.front 3 rfl
      clear S127
      refine J.run 1 K36_21 [(6, iv 1), (7, .pointer (some ⟨b4, 0, none⟩)), (10, iv 1), (9, .agg kvD13_7), (5, .pointer (some ⟨b2, 0, none⟩)), (4, .pointer (some ⟨b1, 0, none⟩)), (0, .pointer (some ⟨b, 0, none⟩)), (1, .slice da acc.length dc)] w54 (by kernel_rfl) ?_
      exact X5 (flE (nxE L je3 ja3) 3) (nxA L je3 ja3) (flB (nxE L je3 ja3) (nxA L je3 ja3) (nxB L je3 ja3 jb3)) w54 (chk_yes (j := 3) hr3 (by decide) rfl (fun hn_ => by rw [← ht2 hn_]; exact fk6)) (hhb3) S128
     ·skip
      refine J.head (.bool false) (congrArg Value.bool fk6) ?_
      refine J.run 2 K36_21 [(6, iv 1), (7, .pointer (some ⟨b4, 0, none⟩)), (10, iv 1), (9, .agg kvD13_7), (5, .pointer (some ⟨b2, 0, none⟩)), (4, .pointer (some ⟨b1, 0, none⟩)), (0, .pointer (some ⟨b, 0, none⟩)), (1, .slice da acc.length dc)] w15 (by kernel_rfl) ?_
      exact X5 (nxE L je3 ja3) (nxA L je3 ja3) (nxB L je3 ja3 jb3) w15 (chk_no (j := 3) hr3 (fun hn_ => by rw [← ht2 hn_]; exact fk6)) (hhb3) S31
    refine J.run 0 K36_13 [(64, .bool tb), (10, iv 0), (9, .agg kvD13_7), (5, .pointer (some ⟨b2, 0, none⟩)), (4, .pointer (some ⟨b1, 0, none⟩)), (0, .pointer (some ⟨b, 0, none⟩)), (1, .slice da acc.length dc)] w11 (by kernel_rfl) ?_
    rcases Bool.eq_false_or_eq_true tb with fk7 | fk7
    ·skip
     refine J.head (.bool true) (congrArg Value.bool fk7) ?_
     refine J.run 3 K36_67 [(65, .pointer (some ⟨b, 0, none⟩)), (10, iv 0), (9, .agg kvD13_7), (5, .pointer (some ⟨b2, 0, none⟩)), (4, .pointer (some ⟨b1, 0, none⟩)), (0, .pointer (some ⟨b, 0, none⟩)), (1, .slice da acc.length dc)] w11 (by kernel_rfl) ?_
     have S129 : Sep w0 (box b [.slice a L.length c, iv (nuE L je2 ja2 0 1099511627776), iv (nxA L je2 ja2), iv (nuB L je2 ja2 jb2 0 1099511627776)] 75 :: box b3 kvD13_2 51 :: box b2 [iv (nuX L je2 ja2), iv 0, iv 0, iv 0, iv 0] 48 :: box b1 kvD13_1 27 :: rowOf tkE a c 78 4 L :: rowOf drE da dc 27 5 acc :: L0) w11 := S21.front 3 rfl
     clear S21
     refine J.callF 66 49 #[.pointer (some ⟨b, 0, none⟩), iv 16] hb49 (by kernel_rfl) (fail_any b a L.length c (nuE L je2 ja2 0 1099511627776) (nxA L je2 ja2) (nuB L je2 ja2 jb2 0 1099511627776) 16 _ _ _ S129 (by omega)) ?_
     rintro _ w55 ⟨rfl, S130⟩
     replace S130 : Sep w0 (box b [.slice a L.length c, iv (flE (nuE L je2 ja2 0 1099511627776) 16), iv (nxA L je2 ja2), iv (flB (nuE L je2 ja2 0 1099511627776) (nxA L je2 ja2) (nuB L je2 ja2 jb2 0 1099511627776))] 75 :: box b3 kvD13_2 51 :: box b2 [iv (nuX L je2 ja2), iv 0, iv 0, iv 0, iv 0] 48 :: box b1 kvD13_1 27 :: rowOf tkE a c 78 4 L :: rowOf drE da dc 27 5 acc :: L0) w55 := S130
     clear S129
     have S131 := S130.front 3 rfl
     clear S130
     have S132 := S131.front 3 rfl
     clear S131
     have S133 : Sep w0 (box b3 kvD13_2 51 :: box b2 [iv (nuX L je2 ja2), iv 0, iv 0, iv 0, iv 0] 48 :: box b1 kvD13_1 27 :: box b [.slice a L.length c, iv (flE (nuE L je2 ja2 0 1099511627776) 16), iv (nxA L je2 ja2), iv (flB (nuE L je2 ja2 0 1099511627776) (nxA L je2 ja2) (nuB L je2 ja2 jb2 0 1099511627776))] 75 :: rowOf tkE a c 78 4 L :: rowOf drE da dc 27 5 acc :: L0) w55 := S132.front 3 rfl
     clear S132
     refine J.run 1 K36_14 [(10, iv 0), (9, .agg kvD13_7), (5, .pointer (some ⟨b2, 0, none⟩)), (4, .pointer (some ⟨b1, 0, none⟩)), (0, .pointer (some ⟨b, 0, none⟩)), (1, .slice da acc.length dc)] w55 (by kernel_rfl) ?_
     exact X4 (flE (nuE L je2 ja2 0 1099511627776) 16) (nxA L je2 ja2) (flB (nuE L je2 ja2 0 1099511627776) (nxA L je2 ja2) (nuB L je2 ja2 jb2 0 1099511627776)) w55 (chk_yes (j := 2) hr2 (by decide) rfl (fun hn_ => by rw [time_eq hac, ← (hn1 hn_).1]; exact htb.symm.trans fk7)) (hhb2) S133
    ·skip
     refine J.head (.bool false) (congrArg Value.bool fk7) ?_
     refine J.run 2 K36_14 [(10, iv 0), (9, .agg kvD13_7), (5, .pointer (some ⟨b2, 0, none⟩)), (4, .pointer (some ⟨b1, 0, none⟩)), (0, .pointer (some ⟨b, 0, none⟩)), (1, .slice da acc.length dc)] w11 (by kernel_rfl) ?_
     exact X4 (nuE L je2 ja2 0 1099511627776) (nxA L je2 ja2) (nuB L je2 ja2 jb2 0 1099511627776) w11 (chk_no (j := 2) hr2 (fun hn_ => by rw [time_eq hac, ← (hn1 hn_).1]; exact htb.symm.trans fk7)) (hhb2) S21
   by_cases fk8 : (acc.length : Int) = 0
   ·skip
    by_cases fk9 : (nuX L je2 ja2) = 0
    ·skip
     by_cases fk10 : (acc.length : Int) > 0
     ·skip
      obtain ⟨p1, hp1, hc1⟩ := (rowOf_recs (S20.nth 5 rfl) _ rfl (fun _ => rfl) (by decide)).at dr0 ((acc.length : Int) - 1).toNat (by omega)
      refine J.drawStill S20 29 Tryd.mixed (by kernel_rfl) (by kernel_rfl) (by kernel_rfl) ?_
      intro w56 S134
      refine SL.ok (by decide) (OK.run 36 (iv 0) (by kernel_rfl)) ?_
      refine SL.ok (by decide) (OK.run 37 (.bool true) (by kernel_rfl)) ?_
      refine SL.ok (by decide) (OK.run 38 (.bool true) (by kernel_rfl)) ?_
      refine SL.ok (by decide) (OK.run 39 (.slice da acc.length dc) (by kernel_rfl)) ?_
      refine SL.ok (by decide) (OK.run 40 (iv (acc.length : Int)) (by kernel_rfl)) ?_
      refine SL.ok (by decide) (OK.run 41 (.bool ((acc.length : Int) == 0)) (by kernel_rfl)) ?_
      refine SL.head (.bool true) (congrArg Value.bool (beq_iff_eq.2 fk8)) ?_
      refine SL.ok (by decide) (OK.run 42 (.bool true) (by kernel_rfl)) ?_
      refine SL.ok (by decide) (OK.indexP 43 48 5 1 b2 0 0 0 (by kernel_rfl) (by kernel_rfl) (by omega) (by omega)) ?_
      refine SL.head (.pointer (some ⟨b2, 0, none⟩)) (by first | rfl | (rw [Nat.zero_add, Nat.mul_one])) ?_
      refine SL.ok (by decide) (OK.ldBox S134 1 44 3 0 (iv (nuX L je2 ja2)) (by kernel_rfl) rfl (by kernel_rfl)) ?_
      refine SL.ok (by decide) (OK.run 45 (.bool ((nuX L je2 ja2) != 0)) (by kernel_rfl)) ?_
      refine SL.head (.bool false) (congrArg Value.bool (bne_eq_false_iff_eq.2 fk9)) ?_
      refine SL.ok (by decide) (OK.run 46 (.bool false) (by kernel_rfl)) ?_
      refine SL.ok (by decide) (OK.run 47 (.bool false) (by kernel_rfl)) ?_
      refine SL.ok (by decide) (OK.run 48 (.slice da acc.length dc) (by kernel_rfl)) ?_
      refine SL.ok (by decide) (OK.run 49 (iv (acc.length : Int)) (by kernel_rfl)) ?_
      refine SL.ok (by decide) (OK.run 50 (.bool (decide ((acc.length : Int) > 0))) (by kernel_rfl)) ?_
      refine SL.head (.bool true) (congrArg Value.bool (decide_eq_true fk10)) ?_
      refine SL.ok (by decide) (OK.run 51 (.bool true) (by kernel_rfl)) ?_
      refine SL.ok (by decide) (OK.indexP 52 48 5 1 b2 0 0 0 (by kernel_rfl) (by kernel_rfl) (by omega) (by omega)) ?_
      refine SL.head (.pointer (some ⟨b2, 0, none⟩)) (by first | rfl | (rw [Nat.zero_add, Nat.mul_one])) ?_
      refine SL.ok (by decide) (OK.ldBox S134 1 53 3 0 (iv (nuX L je2 ja2)) (by kernel_rfl) rfl (by kernel_rfl)) ?_
      refine SL.ok (by decide) (OK.run 54 (.slice da acc.length dc) (by kernel_rfl)) ?_
      refine SL.ok (by decide) (OK.run 55 (.slice da acc.length dc) (by kernel_rfl)) ?_
      refine SL.ok (by decide) (OK.run 56 (iv (acc.length : Int)) (by kernel_rfl)) ?_
      refine SL.ok (by decide) (OK.run 57 (iv (IntKind.wrap .i64 ((acc.length : Int) - 1))) (by kernel_rfl)) ?_
      refine SL.head (iv ((acc.length : Int) - 1)) (congrArg (Value.int .i64) (IntWalk.i64_in _ (by omega))) ?_
      obtain ⟨p2, hp2, hc2⟩ := (rowOf_recs (S134.nth 5 rfl) _ rfl (fun _ => rfl) (by decide)).at dr0 ((acc.length : Int) - 1).toNat (by omega)
      refine SL.ok (by decide) (OK.index 58 22 5 da p2 acc.length ((acc.length : Int) - 1).toNat ((acc.length : Int) - 1) (p2.add (((acc.length : Int) - 1).toNat * 5)) (by kernel_rfl) (by kernel_rfl) hp2 (by omega) (by omega) rfl) ?_
      refine SL.ok (by decide) (OK.run 59 (.pointer (some ((p2.add (((acc.length : Int) - 1).toNat * 5)).add 0))) (by kernel_rfl)) ?_
      refine SL.ok (by decide) (OK.ldCell 60 3 ((p2.add (((acc.length : Int) - 1).toNat * 5)).add 0) (iv ((acc.getD ((acc.length : Int) - 1).toNat dr0).gAt)) (by kernel_rfl) (by kernel_rfl) (hc2 0 _ rfl)) ?_
      refine SL.ok (by decide) (OK.run 61 (.bool (decide ((nuX L je2 ja2) ≤ ((acc.getD ((acc.length : Int) - 1).toNat dr0).gAt)))) (by kernel_rfl)) ?_
      refine SL.ok (by decide) (OK.run 62 (.bool (decide ((nuX L je2 ja2) ≤ ((acc.getD ((acc.length : Int) - 1).toNat dr0).gAt)))) (by kernel_rfl)) ?_
      refine SL.ok (by decide) (OK.run 63 (.bool (decide ((nuX L je2 ja2) ≤ ((acc.getD ((acc.length : Int) - 1).toNat dr0).gAt)))) (by kernel_rfl)) ?_
      refine SL.ok (by decide) (OK.run 64 (.bool (decide ((nuX L je2 ja2) ≤ ((acc.getD ((acc.length : Int) - 1).toNat dr0).gAt)))) (by kernel_rfl)) ?_
      refine SL.done ?_
      refine TL.done (by kernel_rfl) ?_
      refine J.run 0 (rRest K36_12) [(64, .bool (decide ((nuX L je2 ja2) ≤ ((acc.getD ((acc.length : Int) - 1).toNat dr0).gAt)))), (10, iv 0), (9, .agg kvD13_7), (5, .pointer (some ⟨b2, 0, none⟩)), (4, .pointer (some ⟨b1, 0, none⟩)), (0, .pointer (some ⟨b, 0, none⟩)), (1, .slice da acc.length dc)] w56 (by kernel_rfl) ?_
      refine J.run 0 K36_13 [(10, iv 0), (9, .agg kvD13_7), (5, .pointer (some ⟨b2, 0, none⟩)), (4, .pointer (some ⟨b1, 0, none⟩)), (0, .pointer (some ⟨b, 0, none⟩)), (1, .slice da acc.length dc), (64, .bool (decide ((nuX L je2 ja2) ≤ ((acc.getD ((acc.length : Int) - 1).toNat dr0).gAt))))] w56 (by kernel_rfl) ?_
      exact X3 (decide ((nuX L je2 ja2) ≤ ((acc.getD ((acc.length : Int) - 1).toNat dr0).gAt))) w56 ((by first | (rw [if_pos (by omega)] <;> first | rfl | exact (decide_eq_true (by omega)).symm | exact (decide_eq_false (by omega)).symm | exact bneq_dec _ _) | (rw [if_neg (by omega)] <;> first | rfl | exact (decide_eq_true (by omega)).symm | exact (decide_eq_false (by omega)).symm))) S134
     ·skip
      refine J.drawStill S20 29 Tryd.mixed (by kernel_rfl) (by kernel_rfl) (by kernel_rfl) ?_
      intro w57 S135
      refine SL.ok (by decide) (OK.run 36 (iv 0) (by kernel_rfl)) ?_
      refine SL.ok (by decide) (OK.run 37 (.bool true) (by kernel_rfl)) ?_
      refine SL.ok (by decide) (OK.run 38 (.bool true) (by kernel_rfl)) ?_
      refine SL.ok (by decide) (OK.run 39 (.slice da acc.length dc) (by kernel_rfl)) ?_
      refine SL.ok (by decide) (OK.run 40 (iv (acc.length : Int)) (by kernel_rfl)) ?_
      refine SL.ok (by decide) (OK.run 41 (.bool ((acc.length : Int) == 0)) (by kernel_rfl)) ?_
      refine SL.head (.bool true) (congrArg Value.bool (beq_iff_eq.2 fk8)) ?_
      refine SL.ok (by decide) (OK.run 42 (.bool true) (by kernel_rfl)) ?_
      refine SL.ok (by decide) (OK.indexP 43 48 5 1 b2 0 0 0 (by kernel_rfl) (by kernel_rfl) (by omega) (by omega)) ?_
      refine SL.head (.pointer (some ⟨b2, 0, none⟩)) (by first | rfl | (rw [Nat.zero_add, Nat.mul_one])) ?_
      refine SL.ok (by decide) (OK.ldBox S135 1 44 3 0 (iv (nuX L je2 ja2)) (by kernel_rfl) rfl (by kernel_rfl)) ?_
      refine SL.ok (by decide) (OK.run 45 (.bool ((nuX L je2 ja2) != 0)) (by kernel_rfl)) ?_
      refine SL.head (.bool false) (congrArg Value.bool (bne_eq_false_iff_eq.2 fk9)) ?_
      refine SL.ok (by decide) (OK.run 46 (.bool false) (by kernel_rfl)) ?_
      refine SL.ok (by decide) (OK.run 47 (.bool false) (by kernel_rfl)) ?_
      refine SL.ok (by decide) (OK.run 48 (.slice da acc.length dc) (by kernel_rfl)) ?_
      refine SL.ok (by decide) (OK.run 49 (iv (acc.length : Int)) (by kernel_rfl)) ?_
      refine SL.ok (by decide) (OK.run 50 (.bool (decide ((acc.length : Int) > 0))) (by kernel_rfl)) ?_
      refine SL.head (.bool false) (congrArg Value.bool (decide_eq_false fk10)) ?_
      refine SL.ok (by decide) (OK.run 51 (.bool false) (by kernel_rfl)) ?_
      refine SL.pass (d := some 52) (by decide) (by kernel_rfl) ?_
      refine SL.pass (d := some 53) (by decide) (by kernel_rfl) ?_
      refine SL.pass (d := some 54) (by decide) (by kernel_rfl) ?_
      refine SL.pass (d := some 55) (by decide) (by kernel_rfl) ?_
      refine SL.pass (d := some 56) (by decide) (by kernel_rfl) ?_
      refine SL.pass (d := some 57) (by decide) (by kernel_rfl) ?_
      refine SL.pass (d := some 58) (by decide) (by kernel_rfl) ?_
      refine SL.pass (d := some 59) (by decide) (by kernel_rfl) ?_
      refine SL.pass (d := some 60) (by decide) (by kernel_rfl) ?_
      refine SL.pass (d := some 61) (by decide) (by kernel_rfl) ?_
      refine SL.ok (by decide) (OK.run 62 (.bool false) (by kernel_rfl)) ?_
      refine SL.ok (by decide) (OK.run 63 (.bool false) (by kernel_rfl)) ?_
      refine SL.ok (by decide) (OK.run 64 (.bool false) (by kernel_rfl)) ?_
      refine SL.done ?_
      refine TL.done (by kernel_rfl) ?_
      refine J.run 0 (rRest K36_12) [(64, .bool false), (10, iv 0), (9, .agg kvD13_7), (5, .pointer (some ⟨b2, 0, none⟩)), (4, .pointer (some ⟨b1, 0, none⟩)), (0, .pointer (some ⟨b, 0, none⟩)), (1, .slice da acc.length dc)] w57 (by kernel_rfl) ?_
      refine J.run 0 K36_13 [(10, iv 0), (9, .agg kvD13_7), (5, .pointer (some ⟨b2, 0, none⟩)), (4, .pointer (some ⟨b1, 0, none⟩)), (0, .pointer (some ⟨b, 0, none⟩)), (1, .slice da acc.length dc), (64, .bool false)] w57 (by kernel_rfl) ?_
      exact X3 false w57 ((by first | (rw [if_pos (by omega)] <;> first | rfl | exact (decide_eq_true (by omega)).symm | exact (decide_eq_false (by omega)).symm | exact bneq_dec _ _) | (rw [if_neg (by omega)] <;> first | rfl | exact (decide_eq_true (by omega)).symm | exact (decide_eq_false (by omega)).symm))) S135
    ·skip
     refine J.drawStill S20 29 Tryd.mixed (by kernel_rfl) (by kernel_rfl) (by kernel_rfl) ?_
     intro w58 S136
     refine SL.ok (by decide) (OK.run 36 (iv 0) (by kernel_rfl)) ?_
     refine SL.ok (by decide) (OK.run 37 (.bool true) (by kernel_rfl)) ?_
     refine SL.ok (by decide) (OK.run 38 (.bool true) (by kernel_rfl)) ?_
     refine SL.ok (by decide) (OK.run 39 (.slice da acc.length dc) (by kernel_rfl)) ?_
     refine SL.ok (by decide) (OK.run 40 (iv (acc.length : Int)) (by kernel_rfl)) ?_
     refine SL.ok (by decide) (OK.run 41 (.bool ((acc.length : Int) == 0)) (by kernel_rfl)) ?_
     refine SL.head (.bool true) (congrArg Value.bool (beq_iff_eq.2 fk8)) ?_
     refine SL.ok (by decide) (OK.run 42 (.bool true) (by kernel_rfl)) ?_
     refine SL.ok (by decide) (OK.indexP 43 48 5 1 b2 0 0 0 (by kernel_rfl) (by kernel_rfl) (by omega) (by omega)) ?_
     refine SL.head (.pointer (some ⟨b2, 0, none⟩)) (by first | rfl | (rw [Nat.zero_add, Nat.mul_one])) ?_
     refine SL.ok (by decide) (OK.ldBox S136 1 44 3 0 (iv (nuX L je2 ja2)) (by kernel_rfl) rfl (by kernel_rfl)) ?_
     refine SL.ok (by decide) (OK.run 45 (.bool ((nuX L je2 ja2) != 0)) (by kernel_rfl)) ?_
     refine SL.head (.bool true) (congrArg Value.bool (bne_iff_ne.2 fk9)) ?_
     refine SL.ok (by decide) (OK.run 46 (.bool true) (by kernel_rfl)) ?_
     refine SL.ok (by decide) (OK.run 47 (.bool true) (by kernel_rfl)) ?_
     refine SL.pass (d := some 48) (by decide) (by kernel_rfl) ?_
     refine SL.pass (d := some 49) (by decide) (by kernel_rfl) ?_
     refine SL.pass (d := some 50) (by decide) (by kernel_rfl) ?_
     refine SL.pass (d := some 51) (by decide) (by kernel_rfl) ?_
     refine SL.pass (d := some 52) (by decide) (by kernel_rfl) ?_
     refine SL.pass (d := some 53) (by decide) (by kernel_rfl) ?_
     refine SL.pass (d := some 54) (by decide) (by kernel_rfl) ?_
     refine SL.pass (d := some 55) (by decide) (by kernel_rfl) ?_
     refine SL.pass (d := some 56) (by decide) (by kernel_rfl) ?_
     refine SL.pass (d := some 57) (by decide) (by kernel_rfl) ?_
     refine SL.pass (d := some 58) (by decide) (by kernel_rfl) ?_
     refine SL.pass (d := some 59) (by decide) (by kernel_rfl) ?_
     refine SL.pass (d := some 60) (by decide) (by kernel_rfl) ?_
     refine SL.pass (d := some 61) (by decide) (by kernel_rfl) ?_
     refine SL.pass (d := some 62) (by decide) (by kernel_rfl) ?_
     refine SL.ok (by decide) (OK.run 63 (.bool true) (by kernel_rfl)) ?_
     refine SL.ok (by decide) (OK.run 64 (.bool true) (by kernel_rfl)) ?_
     refine SL.done ?_
     refine TL.done (by kernel_rfl) ?_
     refine J.run 0 (rRest K36_12) [(64, .bool true), (10, iv 0), (9, .agg kvD13_7), (5, .pointer (some ⟨b2, 0, none⟩)), (4, .pointer (some ⟨b1, 0, none⟩)), (0, .pointer (some ⟨b, 0, none⟩)), (1, .slice da acc.length dc)] w58 (by kernel_rfl) ?_
     refine J.run 0 K36_13 [(10, iv 0), (9, .agg kvD13_7), (5, .pointer (some ⟨b2, 0, none⟩)), (4, .pointer (some ⟨b1, 0, none⟩)), (0, .pointer (some ⟨b, 0, none⟩)), (1, .slice da acc.length dc), (64, .bool true)] w58 (by kernel_rfl) ?_
     exact X3 true w58 ((by first | (rw [if_pos (by omega)] <;> first | rfl | exact (decide_eq_true (by omega)).symm | exact (decide_eq_false (by omega)).symm | exact bneq_dec _ _) | (rw [if_neg (by omega)] <;> first | rfl | exact (decide_eq_true (by omega)).symm | exact (decide_eq_false (by omega)).symm))) S136
   ·skip
    by_cases fk11 : (acc.length : Int) > 0
    ·skip
     obtain ⟨p3, hp3, hc3⟩ := (rowOf_recs (S20.nth 5 rfl) _ rfl (fun _ => rfl) (by decide)).at dr0 ((acc.length : Int) - 1).toNat (by omega)
     refine J.drawStill S20 29 Tryd.mixed (by kernel_rfl) (by kernel_rfl) (by kernel_rfl) ?_
     intro w59 S137
     refine SL.ok (by decide) (OK.run 36 (iv 0) (by kernel_rfl)) ?_
     refine SL.ok (by decide) (OK.run 37 (.bool true) (by kernel_rfl)) ?_
     refine SL.ok (by decide) (OK.run 38 (.bool true) (by kernel_rfl)) ?_
     refine SL.ok (by decide) (OK.run 39 (.slice da acc.length dc) (by kernel_rfl)) ?_
     refine SL.ok (by decide) (OK.run 40 (iv (acc.length : Int)) (by kernel_rfl)) ?_
     refine SL.ok (by decide) (OK.run 41 (.bool ((acc.length : Int) == 0)) (by kernel_rfl)) ?_
     refine SL.head (.bool false) (congrArg Value.bool (beq_eq_false_iff_ne.2 fk8)) ?_
     refine SL.ok (by decide) (OK.run 42 (.bool false) (by kernel_rfl)) ?_
     refine SL.pass (d := some 43) (by decide) (by kernel_rfl) ?_
     refine SL.pass (d := some 44) (by decide) (by kernel_rfl) ?_
     refine SL.pass (d := some 45) (by decide) (by kernel_rfl) ?_
     refine SL.ok (by decide) (OK.run 46 (.bool false) (by kernel_rfl)) ?_
     refine SL.ok (by decide) (OK.run 47 (.bool false) (by kernel_rfl)) ?_
     refine SL.ok (by decide) (OK.run 48 (.slice da acc.length dc) (by kernel_rfl)) ?_
     refine SL.ok (by decide) (OK.run 49 (iv (acc.length : Int)) (by kernel_rfl)) ?_
     refine SL.ok (by decide) (OK.run 50 (.bool (decide ((acc.length : Int) > 0))) (by kernel_rfl)) ?_
     refine SL.head (.bool true) (congrArg Value.bool (decide_eq_true fk11)) ?_
     refine SL.ok (by decide) (OK.run 51 (.bool true) (by kernel_rfl)) ?_
     refine SL.ok (by decide) (OK.indexP 52 48 5 1 b2 0 0 0 (by kernel_rfl) (by kernel_rfl) (by omega) (by omega)) ?_
     refine SL.head (.pointer (some ⟨b2, 0, none⟩)) (by first | rfl | (rw [Nat.zero_add, Nat.mul_one])) ?_
     refine SL.ok (by decide) (OK.ldBox S137 1 53 3 0 (iv (nuX L je2 ja2)) (by kernel_rfl) rfl (by kernel_rfl)) ?_
     refine SL.ok (by decide) (OK.run 54 (.slice da acc.length dc) (by kernel_rfl)) ?_
     refine SL.ok (by decide) (OK.run 55 (.slice da acc.length dc) (by kernel_rfl)) ?_
     refine SL.ok (by decide) (OK.run 56 (iv (acc.length : Int)) (by kernel_rfl)) ?_
     refine SL.ok (by decide) (OK.run 57 (iv (IntKind.wrap .i64 ((acc.length : Int) - 1))) (by kernel_rfl)) ?_
     refine SL.head (iv ((acc.length : Int) - 1)) (congrArg (Value.int .i64) (IntWalk.i64_in _ (by omega))) ?_
     obtain ⟨p4, hp4, hc4⟩ := (rowOf_recs (S137.nth 5 rfl) _ rfl (fun _ => rfl) (by decide)).at dr0 ((acc.length : Int) - 1).toNat (by omega)
     refine SL.ok (by decide) (OK.index 58 22 5 da p4 acc.length ((acc.length : Int) - 1).toNat ((acc.length : Int) - 1) (p4.add (((acc.length : Int) - 1).toNat * 5)) (by kernel_rfl) (by kernel_rfl) hp4 (by omega) (by omega) rfl) ?_
     refine SL.ok (by decide) (OK.run 59 (.pointer (some ((p4.add (((acc.length : Int) - 1).toNat * 5)).add 0))) (by kernel_rfl)) ?_
     refine SL.ok (by decide) (OK.ldCell 60 3 ((p4.add (((acc.length : Int) - 1).toNat * 5)).add 0) (iv ((acc.getD ((acc.length : Int) - 1).toNat dr0).gAt)) (by kernel_rfl) (by kernel_rfl) (hc4 0 _ rfl)) ?_
     refine SL.ok (by decide) (OK.run 61 (.bool (decide ((nuX L je2 ja2) ≤ ((acc.getD ((acc.length : Int) - 1).toNat dr0).gAt)))) (by kernel_rfl)) ?_
     refine SL.ok (by decide) (OK.run 62 (.bool (decide ((nuX L je2 ja2) ≤ ((acc.getD ((acc.length : Int) - 1).toNat dr0).gAt)))) (by kernel_rfl)) ?_
     refine SL.ok (by decide) (OK.run 63 (.bool (decide ((nuX L je2 ja2) ≤ ((acc.getD ((acc.length : Int) - 1).toNat dr0).gAt)))) (by kernel_rfl)) ?_
     refine SL.ok (by decide) (OK.run 64 (.bool (decide ((nuX L je2 ja2) ≤ ((acc.getD ((acc.length : Int) - 1).toNat dr0).gAt)))) (by kernel_rfl)) ?_
     refine SL.done ?_
     refine TL.done (by kernel_rfl) ?_
     refine J.run 0 (rRest K36_12) [(64, .bool (decide ((nuX L je2 ja2) ≤ ((acc.getD ((acc.length : Int) - 1).toNat dr0).gAt)))), (10, iv 0), (9, .agg kvD13_7), (5, .pointer (some ⟨b2, 0, none⟩)), (4, .pointer (some ⟨b1, 0, none⟩)), (0, .pointer (some ⟨b, 0, none⟩)), (1, .slice da acc.length dc)] w59 (by kernel_rfl) ?_
     refine J.run 0 K36_13 [(10, iv 0), (9, .agg kvD13_7), (5, .pointer (some ⟨b2, 0, none⟩)), (4, .pointer (some ⟨b1, 0, none⟩)), (0, .pointer (some ⟨b, 0, none⟩)), (1, .slice da acc.length dc), (64, .bool (decide ((nuX L je2 ja2) ≤ ((acc.getD ((acc.length : Int) - 1).toNat dr0).gAt))))] w59 (by kernel_rfl) ?_
     exact X3 (decide ((nuX L je2 ja2) ≤ ((acc.getD ((acc.length : Int) - 1).toNat dr0).gAt))) w59 ((by first | (rw [if_pos (by omega)] <;> first | rfl | exact (decide_eq_true (by omega)).symm | exact (decide_eq_false (by omega)).symm | exact bneq_dec _ _) | (rw [if_neg (by omega)] <;> first | rfl | exact (decide_eq_true (by omega)).symm | exact (decide_eq_false (by omega)).symm))) S137
    ·skip
     refine J.drawStill S20 29 Tryd.mixed (by kernel_rfl) (by kernel_rfl) (by kernel_rfl) ?_
     intro w60 S138
     refine SL.ok (by decide) (OK.run 36 (iv 0) (by kernel_rfl)) ?_
     refine SL.ok (by decide) (OK.run 37 (.bool true) (by kernel_rfl)) ?_
     refine SL.ok (by decide) (OK.run 38 (.bool true) (by kernel_rfl)) ?_
     refine SL.ok (by decide) (OK.run 39 (.slice da acc.length dc) (by kernel_rfl)) ?_
     refine SL.ok (by decide) (OK.run 40 (iv (acc.length : Int)) (by kernel_rfl)) ?_
     refine SL.ok (by decide) (OK.run 41 (.bool ((acc.length : Int) == 0)) (by kernel_rfl)) ?_
     refine SL.head (.bool false) (congrArg Value.bool (beq_eq_false_iff_ne.2 fk8)) ?_
     refine SL.ok (by decide) (OK.run 42 (.bool false) (by kernel_rfl)) ?_
     refine SL.pass (d := some 43) (by decide) (by kernel_rfl) ?_
     refine SL.pass (d := some 44) (by decide) (by kernel_rfl) ?_
     refine SL.pass (d := some 45) (by decide) (by kernel_rfl) ?_
     refine SL.ok (by decide) (OK.run 46 (.bool false) (by kernel_rfl)) ?_
     refine SL.ok (by decide) (OK.run 47 (.bool false) (by kernel_rfl)) ?_
     refine SL.ok (by decide) (OK.run 48 (.slice da acc.length dc) (by kernel_rfl)) ?_
     refine SL.ok (by decide) (OK.run 49 (iv (acc.length : Int)) (by kernel_rfl)) ?_
     refine SL.ok (by decide) (OK.run 50 (.bool (decide ((acc.length : Int) > 0))) (by kernel_rfl)) ?_
     refine SL.head (.bool false) (congrArg Value.bool (decide_eq_false fk11)) ?_
     refine SL.ok (by decide) (OK.run 51 (.bool false) (by kernel_rfl)) ?_
     refine SL.pass (d := some 52) (by decide) (by kernel_rfl) ?_
     refine SL.pass (d := some 53) (by decide) (by kernel_rfl) ?_
     refine SL.pass (d := some 54) (by decide) (by kernel_rfl) ?_
     refine SL.pass (d := some 55) (by decide) (by kernel_rfl) ?_
     refine SL.pass (d := some 56) (by decide) (by kernel_rfl) ?_
     refine SL.pass (d := some 57) (by decide) (by kernel_rfl) ?_
     refine SL.pass (d := some 58) (by decide) (by kernel_rfl) ?_
     refine SL.pass (d := some 59) (by decide) (by kernel_rfl) ?_
     refine SL.pass (d := some 60) (by decide) (by kernel_rfl) ?_
     refine SL.pass (d := some 61) (by decide) (by kernel_rfl) ?_
     refine SL.ok (by decide) (OK.run 62 (.bool false) (by kernel_rfl)) ?_
     refine SL.ok (by decide) (OK.run 63 (.bool false) (by kernel_rfl)) ?_
     refine SL.ok (by decide) (OK.run 64 (.bool false) (by kernel_rfl)) ?_
     refine SL.done ?_
     refine TL.done (by kernel_rfl) ?_
     refine J.run 0 (rRest K36_12) [(64, .bool false), (10, iv 0), (9, .agg kvD13_7), (5, .pointer (some ⟨b2, 0, none⟩)), (4, .pointer (some ⟨b1, 0, none⟩)), (0, .pointer (some ⟨b, 0, none⟩)), (1, .slice da acc.length dc)] w60 (by kernel_rfl) ?_
     refine J.run 0 K36_13 [(10, iv 0), (9, .agg kvD13_7), (5, .pointer (some ⟨b2, 0, none⟩)), (4, .pointer (some ⟨b1, 0, none⟩)), (0, .pointer (some ⟨b, 0, none⟩)), (1, .slice da acc.length dc), (64, .bool false)] w60 (by kernel_rfl) ?_
     exact X3 false w60 ((by first | (rw [if_pos (by omega)] <;> first | rfl | exact (decide_eq_true (by omega)).symm | exact (decide_eq_false (by omega)).symm | exact bneq_dec _ _) | (rw [if_neg (by omega)] <;> first | rfl | exact (decide_eq_true (by omega)).symm | exact (decide_eq_false (by omega)).symm))) S138
  rcases Bool.eq_false_or_eq_true (!((nxT L 0 0).toList == (⟨#[97, 116]⟩ : ByteArray).toList)) with fk12 | fk12
  ·skip
   refine J.head (.bool true) (congrArg Value.bool fk12) ?_
   refine J.run 3 K36_68 [(29, .pointer (some ⟨b, 0, none⟩)), (6, iv 0), (7, .pointer (some ⟨b3, 0, none⟩)), (10, iv 0), (9, .agg kvD13_7), (5, .pointer (some ⟨b2, 0, none⟩)), (4, .pointer (some ⟨b1, 0, none⟩)), (0, .pointer (some ⟨b, 0, none⟩)), (1, .slice da acc.length dc)] w7 (by kernel_rfl) ?_
   have S139 : Sep w0 (box b [.slice a L.length c, iv je1, iv ja1, iv jb1] 75 :: box b3 kvD13_2 51 :: box b2 kvD13_1 48 :: box b1 kvD13_1 27 :: rowOf tkE a c 78 4 L :: rowOf drE da dc 27 5 acc :: L0) w7 := S12.front 3 rfl
   clear S12
   refine J.callF 30 49 #[.pointer (some ⟨b, 0, none⟩), iv 3] hb49 (by kernel_rfl) (fail_any b a L.length c je1 ja1 jb1 3 _ _ _ S139 (by omega)) ?_
   rintro _ w61 ⟨rfl, S140⟩
   replace S140 : Sep w0 (box b [.slice a L.length c, iv (flE je1 3), iv ja1, iv (flB je1 ja1 jb1)] 75 :: box b3 kvD13_2 51 :: box b2 kvD13_1 48 :: box b1 kvD13_1 27 :: rowOf tkE a c 78 4 L :: rowOf drE da dc 27 5 acc :: L0) w61 := S140
   clear S139
   have S141 := S140.front 3 rfl
   clear S140
   have S142 := S141.front 3 rfl
   clear S141
   have S143 : Sep w0 (box b3 kvD13_2 51 :: box b2 kvD13_1 48 :: box b1 kvD13_1 27 :: box b [.slice a L.length c, iv (flE je1 3), iv ja1, iv (flB je1 ja1 jb1)] 75 :: rowOf tkE a c 78 4 L :: rowOf drE da dc 27 5 acc :: L0) w61 := S142.front 3 rfl
   clear S142
   refine J.run 1 K36_10 [(6, iv 0), (7, .pointer (some ⟨b3, 0, none⟩)), (10, iv 0), (9, .agg kvD13_7), (5, .pointer (some ⟨b2, 0, none⟩)), (4, .pointer (some ⟨b1, 0, none⟩)), (0, .pointer (some ⟨b, 0, none⟩)), (1, .slice da acc.length dc)] w61 (by kernel_rfl) ?_
   exact X2 (flE je1 3) ja1 (flB je1 ja1 jb1) w61 (chk_yes (j := 1) hj1 (by decide) rfl (fun hn_ => by rw [← ht1 (chk_none hn_).1]; exact fk12)) (hk1) S143
  ·skip
   refine J.head (.bool false) (congrArg Value.bool fk12) ?_
   refine J.run 2 K36_10 [(6, iv 0), (7, .pointer (some ⟨b3, 0, none⟩)), (10, iv 0), (9, .agg kvD13_7), (5, .pointer (some ⟨b2, 0, none⟩)), (4, .pointer (some ⟨b1, 0, none⟩)), (0, .pointer (some ⟨b, 0, none⟩)), (1, .slice da acc.length dc)] w7 (by kernel_rfl) ?_
   exact X2 je1 ja1 jb1 w7 (chk_no (j := 1) hj1 (fun hn_ => by rw [← ht1 (chk_none hn_).1]; exact fk12)) (hk1) S12
 by_cases fk13 : (acc.length : Int) = 200
 ·skip
  refine J.head (.bool true) (congrArg Value.bool (beq_iff_eq.2 fk13)) ?_
  refine J.run 3 K36_69 [(23, .pointer (some ⟨b, 0, none⟩)), (8, .string (nxT L 0 0)), (6, iv 0), (7, .pointer (some ⟨b3, 0, none⟩)), (10, iv 0), (9, .agg kvD13_7), (5, .pointer (some ⟨b2, 0, none⟩)), (4, .pointer (some ⟨b1, 0, none⟩)), (0, .pointer (some ⟨b, 0, none⟩)), (1, .slice da acc.length dc)] w6 (by kernel_rfl) ?_
  have S144 : Sep w0 (box b [.slice a L.length c, iv (nxE L 0 0), iv (nxA L 0 0), iv (nxB L 0 0 0)] 75 :: box b3 kvD13_2 51 :: box b2 kvD13_1 48 :: box b1 kvD13_1 27 :: rowOf tkE a c 78 4 L :: rowOf drE da dc 27 5 acc :: L0) w6 := S11.front 3 rfl
  clear S11
  refine J.callF 24 49 #[.pointer (some ⟨b, 0, none⟩), iv 5] hb49 (by kernel_rfl) (fail_any b a L.length c (nxE L 0 0) (nxA L 0 0) (nxB L 0 0 0) 5 _ _ _ S144 (by omega)) ?_
  rintro _ w62 ⟨rfl, S145⟩
  replace S145 : Sep w0 (box b [.slice a L.length c, iv (flE (nxE L 0 0) 5), iv (nxA L 0 0), iv (flB (nxE L 0 0) (nxA L 0 0) (nxB L 0 0 0))] 75 :: box b3 kvD13_2 51 :: box b2 kvD13_1 48 :: box b1 kvD13_1 27 :: rowOf tkE a c 78 4 L :: rowOf drE da dc 27 5 acc :: L0) w62 := S145
  clear S144
  have S146 := S145.front 3 rfl
  clear S145
  have S147 := S146.front 3 rfl
  clear S146
  have S148 : Sep w0 (box b3 kvD13_2 51 :: box b2 kvD13_1 48 :: box b1 kvD13_1 27 :: box b [.slice a L.length c, iv (flE (nxE L 0 0) 5), iv (nxA L 0 0), iv (flB (nxE L 0 0) (nxA L 0 0) (nxB L 0 0 0))] 75 :: rowOf tkE a c 78 4 L :: rowOf drE da dc 27 5 acc :: L0) w62 := S147.front 3 rfl
  clear S147
  refine J.run 1 K36_7 [(8, .string (nxT L 0 0)), (6, iv 0), (7, .pointer (some ⟨b3, 0, none⟩)), (10, iv 0), (9, .agg kvD13_7), (5, .pointer (some ⟨b2, 0, none⟩)), (4, .pointer (some ⟨b1, 0, none⟩)), (0, .pointer (some ⟨b, 0, none⟩)), (1, .slice da acc.length dc)] w62 (by kernel_rfl) ?_
  exact X1 (flE (nxE L 0 0) 5) (nxA L 0 0) (flB (nxE L 0 0) (nxA L 0 0) (nxB L 0 0 0)) w62 (chk_yes (j := 1) hr1 (by decide) rfl (fun _ => (by unfold fullD; first | exact decide_eq_true (by omega) | exact decide_eq_false (by omega)))) (hhb1) S148
 ·skip
  refine J.head (.bool false) (congrArg Value.bool (beq_eq_false_iff_ne.2 fk13)) ?_
  refine J.run 2 K36_7 [(8, .string (nxT L 0 0)), (6, iv 0), (7, .pointer (some ⟨b3, 0, none⟩)), (10, iv 0), (9, .agg kvD13_7), (5, .pointer (some ⟨b2, 0, none⟩)), (4, .pointer (some ⟨b1, 0, none⟩)), (0, .pointer (some ⟨b, 0, none⟩)), (1, .slice da acc.length dc)] w6 (by kernel_rfl) ?_
  exact X1 (nxE L 0 0) (nxA L 0 0) (nxB L 0 0 0) w6 (chk_no (j := 1) hr1 (fun _ => (by unfold fullD; first | exact decide_eq_true (by omega) | exact decide_eq_false (by omega)))) (hhb1) S11

end Go.Proofs.YthhdaackhfffiaaDoor

