/- Walks of functions of this seat, printed by a program over the engine. Conditions: as each theorem says. -/
import Derived.Test.YthiklimfffhbaaaDoorZpP17
namespace Go.Proofs.YthiklimfffhbaaaDoor
noncomputable section
open Go.Eng Go.RowKit
set_option linter.unusedSimpArgs false
set_option linter.unusedVariables false
theorem hb45 : HasBody Tryd.prog 45 := fun _ _ => by kernel_rfl
def K45_0 := adv 2 [] (bodyOf Tryd.f45)
def K45_1 := adv 4 [] (popK (popK K45_0))
def K45_2 := adv 5 [] (popK (popK (popK K45_1)))
def K45_3 := adv 2 [] (popK K45_2)
def K45_4 := adv 4 [true] K45_3
def K45_5 := adv 2 [] (popK K45_4)
def K45_6 := adv 4 [] (popK (popK K45_5))
def K45_7 := adv 1 [] (popK K45_6)
def K45_8 := adv 4 [] (popK K45_7)
def K45_9 := adv 1 [] (popK K45_8)
def K45_10 := adv 7 [] (popK K45_9)
def K45_11 := adv 2 [] (popK K45_10)
def K45_12 := adv 3 [] K45_11
def K45_13 := adv 4 [] (popK K45_12)
def K45_14 := adv 3 [true] K45_13
def K45_15 := adv 1 [] (popK K45_14)
def K45_16 := adv 4 [] (popK K45_15)
def K45_17 := adv 4 [] (popK K45_16)
def K45_18 := adv 1 [] (popK (popK (popK (popK K45_17))))
def K45_19 := adv 3 [] (popK K45_18)
def K45_20 := adv 1 [] (popK (popK K45_19))
def K45_21 := adv 5 [false] K45_13
def K45_22 := adv 4 [] (popK K45_21)
def K45_23 := adv 1 [] (popK (popK (popK (popK K45_22))))
def K45_24 := adv 3 [] (popK K45_23)
def K45_25 := adv 1 [] (popK (popK K45_24))
def K45_26 := adv 13 [false] K45_11
def K45_27 := adv 4 [] (popK K45_26)
def K45_28 := adv 1 [] (popK (popK (popK (popK K45_27))))
def K45_29 := adv 3 [] (popK K45_28)
def K45_30 := adv 1 [] (popK (popK K45_29))
def K45_31 := adv 6 [false] K45_3
def K45_32 := adv 2 [] (popK K45_31)
def K45_33 := adv 10 [true] K45_32
def K45_34 := adv 3 [] (popK (popK K45_33))
def K45_35 := adv 1 [] (popK (popK K45_34))
def K45_36 := adv 1 [] K45_32
def K45_37 := adv 4 [] (popK K45_36)
def K45_38 := adv 4 [true] K45_37
def K45_39 := adv 3 [] (popK (popK K45_38))
def K45_40 := adv 1 [] (popK (popK K45_39))
def K45_41 := adv 5 [false] K45_37
def K45_42 := adv 2 [] (popK K45_41)
def K45_43 := adv 4 [] (popK (popK K45_42))
def K45_44 := adv 1 [] (popK K45_43)
def K45_45 := adv 4 [] (popK K45_44)
def K45_46 := adv 1 [] (popK K45_45)
def K45_47 := adv 4 [] (popK K45_46)
def K45_48 := adv 1 [] (popK K45_47)
def K45_49 := adv 4 [] (popK K45_48)
def K45_50 := adv 1 [] (popK K45_49)
def K45_51 := adv 4 [] (popK K45_50)
def K45_52 := adv 1 [] (popK K45_51)
def K45_53 := adv 4 [] (popK K45_52)
def K45_54 := adv 1 [] (popK K45_53)
def K45_55 := adv 4 [] (popK K45_54)
def K45_56 := adv 1 [] (popK K45_55)
def K45_57 := adv 4 [] (popK K45_56)
def K45_58 := adv 1 [] (popK K45_57)
def K45_59 := adv 4 [] (popK K45_58)
def K45_60 := adv 1 [] (popK K45_59)
def K45_61 := adv 4 [] (popK K45_60)
def K45_62 := adv 4 [] (popK K45_61)
def K45_63 := adv 2 [] (popK K45_62)
def K45_64 := adv 3 [] K45_63
def K45_65 := adv 2 [] (rRest K45_64)
def K45_66 := adv 1 [] (popK (popK K45_65))
set_option maxRecDepth 20000 in
set_option maxHeartbeats 20000000 in
theorem rline_any (b : Nat) (a p : Option Addr) (c : Nat) (W : List Tk) (el ec : Int) (r : Rs) (ra : Option Addr) (rc : Nat) (out : List Frm) (m : Int) (w0 : World) (L0 : List Eng.Claim) (w : World) (S0 : Sep w0 (box b [.slice p (W.length - r.j) (c - r.j), iv el, iv ec, iv r.pl, iv r.pc, iv r.e] 94 :: rowOf tkE a c 109 4 W :: rowOf frmE ra rc 34 5 out :: (L0 ++ tlF out)) w) (hp : subP a c r.j p) (hj : r.j ≤ W.length) (hts : ∀ k, (W.getD k tk0).gText.size ≤ 1000000) (hof : ∀ y ∈ out, okF y) (hol : (out.length : Int) ≤ m) (hsl : ∀ y ∈ out, (y.gSignals_l.length : Int) ≤ m) (hm : 0 ≤ m ∧ m ≤ 1099511627776) : Ret Tryd.prog 45 #[.pointer (some ⟨b, 0, none⟩), .agg #[.slice ra out.length rc]] w (fun v w' => ∃ p' r' a' c' out', lnQ W el ec r out r' out' ∧ subP a c r'.j p' ∧ r'.j ≤ W.length ∧ (∀ y ∈ out', okF y) ∧ (out'.length : Int) ≤ m + 1 ∧ (∀ y ∈ out', (y.gSignals_l.length : Int) ≤ m + 1) ∧ v = .agg #[.slice a' out'.length c'] ∧ Sep w0 (box b [.slice p' (W.length - r'.j) (c - r'.j), iv el, iv ec, iv r'.pl, iv r'.pc, iv r'.e] 94 :: rowOf tkE a c 109 4 W :: rowOf frmE a' c' 34 5 out' :: (L0 ++ tlF out')) w') := by
 refine Ret.named fun R hR => ?_
 refine Ret.of_J (N := 114) [(0, .pointer (some ⟨b, 0, none⟩)), (1, .agg #[.slice ra out.length rc])] Tryd.func45 rfl rfl (Nat.le_of_ble_eq_true (by kernel_rfl)) (by kernel_rfl) ?_
 have hcap := (rowOf_cells (S0.nth 1 rfl)).2.2
 refine J.run 2 K45_0 [(0, .pointer (some ⟨b, 0, none⟩)), (1, .agg #[.slice ra out.length rc])] w (by kernel_rfl) ?_
 refine J.new S0 3 [.slice ra out.length rc] 24 (by kernel_rfl) ?_
 intro b1 w1 S1
 refine J.new S1 4 [.slice none 0 0] 24 (by kernel_rfl) ?_
 intro b2 w2 S2
 refine J.run 4 K45_1 [(9, .pointer (some ⟨b, 0, none⟩)), (4, .pointer (some ⟨b2, 0, none⟩)), (3, .pointer (some ⟨b1, 0, none⟩)), (0, .pointer (some ⟨b, 0, none⟩))] w2 (by kernel_rfl) ?_
 have S3 := S2.front 3 rfl
 clear S2
 have S4 := S3.front 3 rfl
 clear S3
 refine J.callF 10 67 #[.pointer (some ⟨b, 0, none⟩)] hb67 (by kernel_rfl) (rnext_any b a p c W el ec r _ _ _ S4 hp hj) ?_
 rintro _ w3 ⟨p1, r1, t1, hr1, ht1, hp1, hj1, rfl, S5⟩
 clear S4
 have S6 := S5.front 3 rfl
 clear S5
 have S7 : Sep w0 (box b2 [.slice none 0 0] 24 :: box b1 [.slice ra out.length rc] 24 :: box b [.slice p1 (W.length - r1.j) (c - r1.j), iv el, iv ec, iv r1.pl, iv r1.pc, iv r1.e] 94 :: rowOf tkE a c 109 4 W :: rowOf frmE ra rc 34 5 out :: (L0 ++ tlF out)) w3 := S6.front 3 rfl
 clear S6
 have z_t1 : t1.gText.size ≤ 1000000 := by rw [ht1]; exact nt_size hts
 refine J.new S7 5 [iv 0, .string ByteArray.empty, iv 0, iv 0] 109 (by kernel_rfl) ?_
 intro b3 w4 S8
 refine J.stBox S8 0 109 0 (.agg #[iv t1.gKind, .string t1.gText, iv t1.gPlace_Line, iv t1.gPlace_Column]) [iv t1.gKind, .string t1.gText, iv t1.gPlace_Line, iv t1.gPlace_Column] (box b3 [iv t1.gKind, .string t1.gText, iv t1.gPlace_Line, iv t1.gPlace_Column] 109 :: box b2 [.slice none 0 0] 24 :: box b1 [.slice ra out.length rc] 24 :: box b [.slice p1 (W.length - r1.j) (c - r1.j), iv el, iv ec, iv r1.pl, iv r1.pc, iv r1.e] 94 :: rowOf tkE a c 109 4 W :: rowOf frmE ra rc 34 5 out :: (L0 ++ tlF out)) (by kernel_rfl) rfl (by kernel_rfl) (by kernel_rfl) rfl ?_
 intro w5 S9
 refine J.run 5 K45_2 [(11, .pointer (some ⟨b3, 1, none⟩)), (5, .pointer (some ⟨b3, 0, none⟩)), (4, .pointer (some ⟨b2, 0, none⟩)), (3, .pointer (some ⟨b1, 0, none⟩)), (0, .pointer (some ⟨b, 0, none⟩))] w5 (by kernel_rfl) ?_
 refine J.ok (OK.ldBox S9 0 12 9 1 (.string t1.gText) (by kernel_rfl) rfl (by kernel_rfl)) ?_
 refine J.run 2 K45_3 [(13, .bool (t1.gText.toList == (⟨#[102, 114, 97, 109, 101]⟩ : ByteArray).toList)), (5, .pointer (some ⟨b3, 0, none⟩)), (4, .pointer (some ⟨b2, 0, none⟩)), (3, .pointer (some ⟨b1, 0, none⟩)), (0, .pointer (some ⟨b, 0, none⟩))] w5 (by kernel_rfl) ?_
 rcases Bool.eq_false_or_eq_true (t1.gText.toList == (⟨#[102, 114, 97, 109, 101]⟩ : ByteArray).toList) with fk1 | fk1
 ·skip
  refine J.head (.bool true) (congrArg Value.bool fk1) ?_
  refine J.run 4 K45_4 [(14, .pointer (some ⟨b, 0, none⟩)), (4, .pointer (some ⟨b2, 0, none⟩)), (3, .pointer (some ⟨b1, 0, none⟩)), (0, .pointer (some ⟨b, 0, none⟩))] w5 (by kernel_rfl) ?_
  have S10 := S9.front 4 rfl
  clear S9
  have S11 := S10.front 4 rfl
  clear S10
  refine J.callF 15 67 #[.pointer (some ⟨b, 0, none⟩)] hb67 (by kernel_rfl) (rnext_any b a p1 c W el ec r1 _ _ _ S11 hp1 hj1) ?_
  rintro _ w6 ⟨p2, r2, t2, hr2, ht2, hp2, hj2, rfl, S12⟩
  clear S11
  have S13 := S12.front 4 rfl
  clear S12
  have S14 := S13.front 4 rfl
  clear S13
  have S15 : Sep w0 (box b3 [iv t1.gKind, .string t1.gText, iv t1.gPlace_Line, iv t1.gPlace_Column] 109 :: box b2 [.slice none 0 0] 24 :: box b1 [.slice ra out.length rc] 24 :: box b [.slice p2 (W.length - r2.j) (c - r2.j), iv el, iv ec, iv r2.pl, iv r2.pc, iv r2.e] 94 :: rowOf tkE a c 109 4 W :: rowOf frmE ra rc 34 5 out :: (L0 ++ tlF out)) w6 := S14.front 4 rfl
  clear S14
  have z_t2 : t2.gText.size ≤ 1000000 := by rw [ht2]; exact nt_size hts
  refine J.run 2 K45_5 [(17, .agg #[.string t2.gText, iv 0, iv 0, .bool false, .slice none 0 0]), (4, .pointer (some ⟨b2, 0, none⟩)), (3, .pointer (some ⟨b1, 0, none⟩)), (0, .pointer (some ⟨b, 0, none⟩))] w6 (by kernel_rfl) ?_
  refine J.new S15 6 [.string ByteArray.empty, iv 0, iv 0, .bool false, .slice none 0 0] 34 (by kernel_rfl) ?_
  intro b4 w7 S16
  refine J.stBox S16 0 34 0 (.agg #[.string t2.gText, iv 0, iv 0, .bool false, .slice none 0 0]) [.string t2.gText, iv 0, iv 0, .bool false, .slice none 0 0] (box b4 [.string t2.gText, iv 0, iv 0, .bool false, .slice none 0 0] 34 :: box b3 [iv t1.gKind, .string t1.gText, iv t1.gPlace_Line, iv t1.gPlace_Column] 109 :: box b2 [.slice none 0 0] 24 :: box b1 [.slice ra out.length rc] 24 :: box b [.slice p2 (W.length - r2.j) (c - r2.j), iv el, iv ec, iv r2.pl, iv r2.pc, iv r2.e] 94 :: rowOf tkE a c 109 4 W :: rowOf frmE ra rc 34 5 out :: (L0 ++ tlF out)) (by kernel_rfl) rfl (by kernel_rfl) (by kernel_rfl) rfl ?_
  intro w8 S17
  refine J.run 4 K45_6 [(18, .pointer (some ⟨b, 0, none⟩)), (6, .pointer (some ⟨b4, 0, none⟩)), (4, .pointer (some ⟨b2, 0, none⟩)), (3, .pointer (some ⟨b1, 0, none⟩)), (0, .pointer (some ⟨b, 0, none⟩))] w8 (by kernel_rfl) ?_
  have S18 := S17.front 5 rfl
  clear S17
  have S19 := S18.front 5 rfl
  clear S18
  refine J.callF 19 68 #[.pointer (some ⟨b, 0, none⟩)] hb68 (by kernel_rfl) (rnumber_any b a p2 c W el ec r2 _ _ _ S19 hp2 hj2 hts) ?_
  rintro _ w9 ⟨p3, r3, hr3, hp3, hj3, rfl, S20⟩
  clear S19
  have S21 := S20.front 5 rfl
  clear S20
  have S22 := S21.front 5 rfl
  clear S21
  have S23 := S22.front 5 rfl
  clear S22
  have S24 : Sep w0 (box b4 [.string t2.gText, iv 0, iv 0, .bool false, .slice none 0 0] 34 :: box b3 [iv t1.gKind, .string t1.gText, iv t1.gPlace_Line, iv t1.gPlace_Column] 109 :: box b2 [.slice none 0 0] 24 :: box b1 [.slice ra out.length rc] 24 :: box b [.slice p3 (W.length - r3.j) (c - r3.j), iv el, iv ec, iv r3.pl, iv r3.pc, iv r3.e] 94 :: rowOf tkE a c 109 4 W :: rowOf frmE ra rc 34 5 out :: (L0 ++ tlF out)) w9 := S23.front 5 rfl
  clear S23
  refine J.run 1 K45_7 [(20, .pointer (some ⟨b4, 1, none⟩)), (19, iv (nuV W r2)), (6, .pointer (some ⟨b4, 0, none⟩)), (4, .pointer (some ⟨b2, 0, none⟩)), (3, .pointer (some ⟨b1, 0, none⟩)), (0, .pointer (some ⟨b, 0, none⟩))] w9 (by kernel_rfl) ?_
  refine J.stBox S24 0 3 1 (iv (nuV W r2)) [.string t2.gText, iv (nuV W r2), iv 0, .bool false, .slice none 0 0] (box b4 [.string t2.gText, iv (nuV W r2), iv 0, .bool false, .slice none 0 0] 34 :: box b3 [iv t1.gKind, .string t1.gText, iv t1.gPlace_Line, iv t1.gPlace_Column] 109 :: box b2 [.slice none 0 0] 24 :: box b1 [.slice ra out.length rc] 24 :: box b [.slice p3 (W.length - r3.j) (c - r3.j), iv el, iv ec, iv r3.pl, iv r3.pc, iv r3.e] 94 :: rowOf tkE a c 109 4 W :: rowOf frmE ra rc 34 5 out :: (L0 ++ tlF out)) (by kernel_rfl) rfl (by kernel_rfl) (by kernel_rfl) rfl ?_
  intro w10 S25
  refine J.run 4 K45_8 [(21, .pointer (some ⟨b, 0, none⟩)), (6, .pointer (some ⟨b4, 0, none⟩)), (4, .pointer (some ⟨b2, 0, none⟩)), (3, .pointer (some ⟨b1, 0, none⟩)), (0, .pointer (some ⟨b, 0, none⟩))] w10 (by kernel_rfl) ?_
  have S26 := S25.front 5 rfl
  clear S25
  have S27 := S26.front 5 rfl
  clear S26
  refine J.callF 22 68 #[.pointer (some ⟨b, 0, none⟩)] hb68 (by kernel_rfl) (rnumber_any b a p3 c W el ec r3 _ _ _ S27 hp3 hj3 hts) ?_
  rintro _ w11 ⟨p4, r4, hr4, hp4, hj4, rfl, S28⟩
  clear S27
  have S29 := S28.front 5 rfl
  clear S28
  have S30 := S29.front 5 rfl
  clear S29
  have S31 := S30.front 5 rfl
  clear S30
  have S32 : Sep w0 (box b4 [.string t2.gText, iv (nuV W r2), iv 0, .bool false, .slice none 0 0] 34 :: box b3 [iv t1.gKind, .string t1.gText, iv t1.gPlace_Line, iv t1.gPlace_Column] 109 :: box b2 [.slice none 0 0] 24 :: box b1 [.slice ra out.length rc] 24 :: box b [.slice p4 (W.length - r4.j) (c - r4.j), iv el, iv ec, iv r4.pl, iv r4.pc, iv r4.e] 94 :: rowOf tkE a c 109 4 W :: rowOf frmE ra rc 34 5 out :: (L0 ++ tlF out)) w11 := S31.front 5 rfl
  clear S31
  refine J.run 1 K45_9 [(23, .pointer (some ⟨b4, 2, none⟩)), (22, iv (nuV W r3)), (6, .pointer (some ⟨b4, 0, none⟩)), (4, .pointer (some ⟨b2, 0, none⟩)), (3, .pointer (some ⟨b1, 0, none⟩)), (0, .pointer (some ⟨b, 0, none⟩))] w11 (by kernel_rfl) ?_
  refine J.stBox S32 0 3 2 (iv (nuV W r3)) [.string t2.gText, iv (nuV W r2), iv (nuV W r3), .bool false, .slice none 0 0] (box b4 [.string t2.gText, iv (nuV W r2), iv (nuV W r3), .bool false, .slice none 0 0] 34 :: box b3 [iv t1.gKind, .string t1.gText, iv t1.gPlace_Line, iv t1.gPlace_Column] 109 :: box b2 [.slice none 0 0] 24 :: box b1 [.slice ra out.length rc] 24 :: box b [.slice p4 (W.length - r4.j) (c - r4.j), iv el, iv ec, iv r4.pl, iv r4.pc, iv r4.e] 94 :: rowOf tkE a c 109 4 W :: rowOf frmE ra rc 34 5 out :: (L0 ++ tlF out)) (by kernel_rfl) rfl (by kernel_rfl) (by kernel_rfl) rfl ?_
  intro w12 S33
  refine J.run 7 K45_10 [(26, .pointer (some ⟨b, 5, none⟩)), (6, .pointer (some ⟨b4, 0, none⟩)), (4, .pointer (some ⟨b2, 0, none⟩)), (3, .pointer (some ⟨b1, 0, none⟩)), (0, .pointer (some ⟨b, 0, none⟩))] w12 (by kernel_rfl) ?_
  refine J.ok (OK.ldBox S33 4 27 3 5 (iv r4.e) (by kernel_rfl) rfl (by kernel_rfl)) ?_
  refine J.run 2 K45_11 [(29, .bool (r4.e == 0)), (6, .pointer (some ⟨b4, 0, none⟩)), (4, .pointer (some ⟨b2, 0, none⟩)), (3, .pointer (some ⟨b1, 0, none⟩)), (0, .pointer (some ⟨b, 0, none⟩))] w12 (by kernel_rfl) ?_
  by_cases fk2 : r4.e = 0
  rotate_left
  ·skip
   refine J.head (.bool false) (congrArg Value.bool (beq_eq_false_iff_ne.2 fk2)) ?_
   refine J.run 13 K45_26 [(40, .pointer (some ⟨b, 0, none⟩)), (6, .pointer (some ⟨b4, 0, none⟩)), (4, .pointer (some ⟨b2, 0, none⟩)), (3, .pointer (some ⟨b1, 0, none⟩))] w12 (by kernel_rfl) ?_
   have S72 := S33.front 5 rfl
   clear S33
   have S73 := S72.front 5 rfl
   clear S72
   refine J.callF 41 70 #[.pointer (some ⟨b, 0, none⟩)] hb70 (by kernel_rfl) (rend_any b a p4 c W el ec r4 _ _ _ S73 hp4 hj4) ?_
   rintro _ w25 ⟨p8, r8, hr8, hp8, hj8, rfl, S74⟩
   clear S73
   have S75 := S74.front 5 rfl
   clear S74
   have S76 := S75.front 5 rfl
   clear S75
   have S77 := S76.front 5 rfl
   clear S76
   have S78 : Sep w0 (box b4 [.string t2.gText, iv (nuV W r2), iv (nuV W r3), .bool false, .slice none 0 0] 34 :: box b3 [iv t1.gKind, .string t1.gText, iv t1.gPlace_Line, iv t1.gPlace_Column] 109 :: box b2 [.slice none 0 0] 24 :: box b1 [.slice ra out.length rc] 24 :: box b [.slice p8 (W.length - r8.j) (c - r8.j), iv el, iv ec, iv r8.pl, iv r8.pc, iv r8.e] 94 :: rowOf tkE a c 109 4 W :: rowOf frmE ra rc 34 5 out :: (L0 ++ tlF out)) w25 := S77.front 5 rfl
   clear S77
   refine J.run 4 K45_27 [(42, .pointer (some ⟨b1, 0, none⟩)), (6, .pointer (some ⟨b4, 0, none⟩)), (4, .pointer (some ⟨b2, 0, none⟩)), (3, .pointer (some ⟨b1, 0, none⟩))] w25 (by kernel_rfl) ?_
   refine J.ok (OK.ldBox S78 3 43 22 0 (.slice ra out.length rc) (by kernel_rfl) rfl (by kernel_rfl)) ?_
   refine J.ok (OK.ldBox S78 0 44 34 0 (.agg #[.string t2.gText, iv (nuV W r2), iv (nuV W r3), .bool false, .slice none 0 0]) (by kernel_rfl) rfl (by kernel_rfl)) ?_
   refine J.newSlice S78 45 1 [.string t2.gText, iv (nuV W r2), iv (nuV W r3), .bool false, .slice none 0 0] 34 (by kernel_rfl) ?_
   intro b7 w26 S79
   refine J.append frmE S79 7 out (⟨t2.gText, nuV W r2, nuV W r3, false, none, 0, 0, []⟩ : Frm) 46 22 (.agg #[.string ByteArray.empty, iv 0, iv 0, .bool false, .slice none 0 0]) 64 ⟨b7, 0, none⟩ 1 rfl (by kernel_rfl) (by kernel_rfl) (by kernel_rfl) (by kernel_rfl) (by decide) (box_cells (S79.nth 0 rfl)) (by kernel_rfl) (by kernel_rfl) (⟨by omega, by omega⟩) ?_
   intro ra3 rc3 w27 S80
   replace S80 : Sep w0 (box b7 [.string t2.gText, iv (nuV W r2), iv (nuV W r3), .bool false, .slice none 0 0] 34 :: box b4 [.string t2.gText, iv (nuV W r2), iv (nuV W r3), .bool false, .slice none 0 0] 34 :: box b3 [iv t1.gKind, .string t1.gText, iv t1.gPlace_Line, iv t1.gPlace_Column] 109 :: box b2 [.slice none 0 0] 24 :: box b1 [.slice ra out.length rc] 24 :: box b [.slice p8 (W.length - r8.j) (c - r8.j), iv el, iv ec, iv r8.pl, iv r8.pc, iv r8.e] 94 :: rowOf tkE a c 109 4 W :: rowOf frmE ra3 rc3 34 5 (out ++ [(⟨t2.gText, nuV W r2, nuV W r3, false, none, 0, 0, []⟩ : Frm)]) :: (L0 ++ tlF out)) w27 := S80
   have S81 : Sep w0 (box b4 [.string t2.gText, iv (nuV W r2), iv (nuV W r3), .bool false, .slice none 0 0] 34 :: box b3 [iv t1.gKind, .string t1.gText, iv t1.gPlace_Line, iv t1.gPlace_Column] 109 :: box b2 [.slice none 0 0] 24 :: box b1 [.slice ra out.length rc] 24 :: box b [.slice p8 (W.length - r8.j) (c - r8.j), iv el, iv ec, iv r8.pl, iv r8.pc, iv r8.e] 94 :: rowOf tkE a c 109 4 W :: rowOf frmE ra3 rc3 34 5 (out ++ [(⟨t2.gText, nuV W r2, nuV W r3, false, none, 0, 0, []⟩ : Frm)]) :: (L0 ++ tlF out)) w27 := S80.erase 0
   clear S80
   have S82 := S81.nilRow 57 10
   have S83 : Sep w0 (box b4 [.string t2.gText, iv (nuV W r2), iv (nuV W r3), .bool false, .slice none 0 0] 34 :: box b3 [iv t1.gKind, .string t1.gText, iv t1.gPlace_Line, iv t1.gPlace_Column] 109 :: box b2 [.slice none 0 0] 24 :: box b1 [.slice ra out.length rc] 24 :: box b [.slice p8 (W.length - r8.j) (c - r8.j), iv el, iv ec, iv r8.pl, iv r8.pc, iv r8.e] 94 :: rowOf tkE a c 109 4 W :: rowOf frmE ra3 rc3 34 5 (out ++ [(⟨t2.gText, nuV W r2, nuV W r3, false, none, 0, 0, []⟩ : Frm)]) :: (L0 ++ tlF (out ++ [(⟨t2.gText, nuV W r2, nuV W r3, false, none, 0, 0, []⟩ : Frm)]))) w27 := tk_snoc (x := (⟨t2.gText, nuV W r2, nuV W r3, false, none, 0, 0, []⟩ : Frm)) [box b4 [.string t2.gText, iv (nuV W r2), iv (nuV W r3), .bool false, .slice none 0 0] 34, box b3 [iv t1.gKind, .string t1.gText, iv t1.gPlace_Line, iv t1.gPlace_Column] 109, box b2 [.slice none 0 0] 24, box b1 [.slice ra out.length rc] 24, box b [.slice p8 (W.length - r8.j) (c - r8.j), iv el, iv ec, iv r8.pl, iv r8.pc, iv r8.e] 94, rowOf tkE a c 109 4 W, rowOf frmE ra3 rc3 34 5 (out ++ [(⟨t2.gText, nuV W r2, nuV W r3, false, none, 0, 0, []⟩ : Frm)])] S82
   clear S82
   refine J.run 1 K45_28 [(47, .pointer (some ⟨b1, 0, none⟩)), (46, .slice ra3 ((out ++ [(⟨t2.gText, nuV W r2, nuV W r3, false, none, 0, 0, []⟩ : Frm)]).length) rc3), (4, .pointer (some ⟨b2, 0, none⟩)), (3, .pointer (some ⟨b1, 0, none⟩))] w27 (by kernel_rfl) ?_
   refine J.stBox S83 3 22 0 (.slice ra3 ((out ++ [(⟨t2.gText, nuV W r2, nuV W r3, false, none, 0, 0, []⟩ : Frm)]).length) rc3) [.slice ra3 ((out ++ [(⟨t2.gText, nuV W r2, nuV W r3, false, none, 0, 0, []⟩ : Frm)]).length) rc3] (box b4 [.string t2.gText, iv (nuV W r2), iv (nuV W r3), .bool false, .slice none 0 0] 34 :: box b3 [iv t1.gKind, .string t1.gText, iv t1.gPlace_Line, iv t1.gPlace_Column] 109 :: box b2 [.slice none 0 0] 24 :: box b1 [.slice ra3 ((out ++ [(⟨t2.gText, nuV W r2, nuV W r3, false, none, 0, 0, []⟩ : Frm)]).length) rc3] 24 :: box b [.slice p8 (W.length - r8.j) (c - r8.j), iv el, iv ec, iv r8.pl, iv r8.pc, iv r8.e] 94 :: rowOf tkE a c 109 4 W :: rowOf frmE ra3 rc3 34 5 (out ++ [(⟨t2.gText, nuV W r2, nuV W r3, false, none, 0, 0, []⟩ : Frm)]) :: (L0 ++ tlF (out ++ [(⟨t2.gText, nuV W r2, nuV W r3, false, none, 0, 0, []⟩ : Frm)]))) (by kernel_rfl) rfl (by kernel_rfl) (by kernel_rfl) rfl ?_
   intro w28 S84
   refine J.run 3 K45_29 [(4, .pointer (some ⟨b2, 0, none⟩)), (3, .pointer (some ⟨b1, 0, none⟩))] w28 (by kernel_rfl) ?_
   refine J.ok (OK.ldBox S84 3 48 24 0 (.agg #[.slice ra3 ((out ++ [(⟨t2.gText, nuV W r2, nuV W r3, false, none, 0, 0, []⟩ : Frm)]).length) rc3]) (by kernel_rfl) rfl (by kernel_rfl)) ?_
   refine J.stBox S84 2 24 0 (.agg #[.slice ra3 ((out ++ [(⟨t2.gText, nuV W r2, nuV W r3, false, none, 0, 0, []⟩ : Frm)]).length) rc3]) [.slice ra3 ((out ++ [(⟨t2.gText, nuV W r2, nuV W r3, false, none, 0, 0, []⟩ : Frm)]).length) rc3] (box b4 [.string t2.gText, iv (nuV W r2), iv (nuV W r3), .bool false, .slice none 0 0] 34 :: box b3 [iv t1.gKind, .string t1.gText, iv t1.gPlace_Line, iv t1.gPlace_Column] 109 :: box b2 [.slice ra3 ((out ++ [(⟨t2.gText, nuV W r2, nuV W r3, false, none, 0, 0, []⟩ : Frm)]).length) rc3] 24 :: box b1 [.slice ra3 ((out ++ [(⟨t2.gText, nuV W r2, nuV W r3, false, none, 0, 0, []⟩ : Frm)]).length) rc3] 24 :: box b [.slice p8 (W.length - r8.j) (c - r8.j), iv el, iv ec, iv r8.pl, iv r8.pc, iv r8.e] 94 :: rowOf tkE a c 109 4 W :: rowOf frmE ra3 rc3 34 5 (out ++ [(⟨t2.gText, nuV W r2, nuV W r3, false, none, 0, 0, []⟩ : Frm)]) :: (L0 ++ tlF (out ++ [(⟨t2.gText, nuV W r2, nuV W r3, false, none, 0, 0, []⟩ : Frm)]))) (by kernel_rfl) rfl (by kernel_rfl) (by kernel_rfl) rfl ?_
   intro w29 S85
   refine J.run 1 K45_30 [(4, .pointer (some ⟨b2, 0, none⟩))] w29 (by kernel_rfl) ?_
   refine J.ret Tryd.f45 [.agg #[.slice ra3 ((out ++ [(⟨t2.gText, nuV W r2, nuV W r3, false, none, 0, 0, []⟩ : Frm)]).length) rc3]] Tryd.func45 ⟨⟨⟨b2, 0, none⟩, by kernel_rfl, ldV_run (S85.nth 2 rfl) (by kernel_rfl)⟩, trivial⟩ ?_
   refine hR _ _ ?_
   have S86 : Sep w0 (box b [.slice p8 (W.length - r8.j) (c - r8.j), iv el, iv ec, iv r8.pl, iv r8.pc, iv r8.e] 94 :: rowOf tkE a c 109 4 W :: rowOf frmE ra3 rc3 34 5 (out ++ [(⟨t2.gText, nuV W r2, nuV W r3, false, none, 0, 0, []⟩ : Frm)]) :: (L0 ++ tlF (out ++ [(⟨t2.gText, nuV W r2, nuV W r3, false, none, 0, 0, []⟩ : Frm)]))) w29 := S85.sub (.cons _ (.cons _ (.cons _ (.cons _ (.cons_cons _ (.cons_cons _ (.cons_cons _ (List.Sublist.refl _))))))))
   clear S85
   have hgu := gu_no (W := W) (el := el) (ec := ec) (r := r4) (by omega)
   refine ⟨p8, r8, ra3, rc3, out ++ [(⟨t2.gText, nuV W r2, nuV W r3, false, none, 0, 0, []⟩ : Frm)], ln_fr (by rw [← ht1]; exact fk1) ?_ ?_, hp8, hj8, all_snoc hof (okF_of (by omega) _ (nuV_px _ _) (nuV_px _ _)), by rw [List.length_append, List.length_singleton]; omega, all_snoc (Q := fun y => (y.gSignals_l.length : Int) ≤ m + 1) (fun y hy => Int.le_trans (hsl y hy) (by omega)) (show ((0 : Nat) : Int) ≤ m + 1 by omega), rfl, S86⟩
   · subst hr1; subst hr2; subst hr3; subst hr4; subst hr8; unfold lnF; rw [hgu.1] <;> rfl
   · refine fr_map _ ?_; subst hr1; subst hr2; subst hr3; subst hr4; subst hr8; subst ht1; subst ht2; unfold frR; rw [hgu.2] <;> rfl
  refine J.head (.bool true) (congrArg Value.bool (beq_iff_eq.2 fk2)) ?_
  refine J.run 3 K45_12 [(32, .pointer (some ⟨b, 0, none⟩)), (29, .bool true), (6, .pointer (some ⟨b4, 0, none⟩)), (4, .pointer (some ⟨b2, 0, none⟩)), (3, .pointer (some ⟨b1, 0, none⟩)), (0, .pointer (some ⟨b, 0, none⟩))] w12 (by kernel_rfl) ?_
  refine J.ok (OK.ldBox S33 4 33 90 0 (.slice p4 (W.length - r4.j) (c - r4.j)) (by kernel_rfl) rfl (by kernel_rfl)) ?_
  refine J.run 4 K45_13 [(36, .bool (decide (((W.length - r4.j : Nat) : Int) > 0))), (6, .pointer (some ⟨b4, 0, none⟩)), (4, .pointer (some ⟨b2, 0, none⟩)), (3, .pointer (some ⟨b1, 0, none⟩)), (0, .pointer (some ⟨b, 0, none⟩))] w12 (by kernel_rfl) ?_
  by_cases fk3 : ((W.length - r4.j : Nat) : Int) > 0
  rotate_left
  ·skip
   refine J.head (.bool false) (congrArg Value.bool (decide_eq_false fk3)) ?_
   refine J.run 5 K45_21 [(40, .pointer (some ⟨b, 0, none⟩)), (6, .pointer (some ⟨b4, 0, none⟩)), (4, .pointer (some ⟨b2, 0, none⟩)), (3, .pointer (some ⟨b1, 0, none⟩))] w12 (by kernel_rfl) ?_
   have S57 := S33.front 5 rfl
   clear S33
   have S58 := S57.front 5 rfl
   clear S57
   refine J.callF 41 70 #[.pointer (some ⟨b, 0, none⟩)] hb70 (by kernel_rfl) (rend_any b a p4 c W el ec r4 _ _ _ S58 hp4 hj4) ?_
   rintro _ w20 ⟨p7, r7, hr7, hp7, hj7, rfl, S59⟩
   clear S58
   have S60 := S59.front 5 rfl
   clear S59
   have S61 := S60.front 5 rfl
   clear S60
   have S62 := S61.front 5 rfl
   clear S61
   have S63 : Sep w0 (box b4 [.string t2.gText, iv (nuV W r2), iv (nuV W r3), .bool false, .slice none 0 0] 34 :: box b3 [iv t1.gKind, .string t1.gText, iv t1.gPlace_Line, iv t1.gPlace_Column] 109 :: box b2 [.slice none 0 0] 24 :: box b1 [.slice ra out.length rc] 24 :: box b [.slice p7 (W.length - r7.j) (c - r7.j), iv el, iv ec, iv r7.pl, iv r7.pc, iv r7.e] 94 :: rowOf tkE a c 109 4 W :: rowOf frmE ra rc 34 5 out :: (L0 ++ tlF out)) w20 := S62.front 5 rfl
   clear S62
   refine J.run 4 K45_22 [(42, .pointer (some ⟨b1, 0, none⟩)), (6, .pointer (some ⟨b4, 0, none⟩)), (4, .pointer (some ⟨b2, 0, none⟩)), (3, .pointer (some ⟨b1, 0, none⟩))] w20 (by kernel_rfl) ?_
   refine J.ok (OK.ldBox S63 3 43 22 0 (.slice ra out.length rc) (by kernel_rfl) rfl (by kernel_rfl)) ?_
   refine J.ok (OK.ldBox S63 0 44 34 0 (.agg #[.string t2.gText, iv (nuV W r2), iv (nuV W r3), .bool false, .slice none 0 0]) (by kernel_rfl) rfl (by kernel_rfl)) ?_
   refine J.newSlice S63 45 1 [.string t2.gText, iv (nuV W r2), iv (nuV W r3), .bool false, .slice none 0 0] 34 (by kernel_rfl) ?_
   intro b6 w21 S64
   refine J.append frmE S64 7 out (⟨t2.gText, nuV W r2, nuV W r3, false, none, 0, 0, []⟩ : Frm) 46 22 (.agg #[.string ByteArray.empty, iv 0, iv 0, .bool false, .slice none 0 0]) 64 ⟨b6, 0, none⟩ 1 rfl (by kernel_rfl) (by kernel_rfl) (by kernel_rfl) (by kernel_rfl) (by decide) (box_cells (S64.nth 0 rfl)) (by kernel_rfl) (by kernel_rfl) (⟨by omega, by omega⟩) ?_
   intro ra2 rc2 w22 S65
   replace S65 : Sep w0 (box b6 [.string t2.gText, iv (nuV W r2), iv (nuV W r3), .bool false, .slice none 0 0] 34 :: box b4 [.string t2.gText, iv (nuV W r2), iv (nuV W r3), .bool false, .slice none 0 0] 34 :: box b3 [iv t1.gKind, .string t1.gText, iv t1.gPlace_Line, iv t1.gPlace_Column] 109 :: box b2 [.slice none 0 0] 24 :: box b1 [.slice ra out.length rc] 24 :: box b [.slice p7 (W.length - r7.j) (c - r7.j), iv el, iv ec, iv r7.pl, iv r7.pc, iv r7.e] 94 :: rowOf tkE a c 109 4 W :: rowOf frmE ra2 rc2 34 5 (out ++ [(⟨t2.gText, nuV W r2, nuV W r3, false, none, 0, 0, []⟩ : Frm)]) :: (L0 ++ tlF out)) w22 := S65
   have S66 : Sep w0 (box b4 [.string t2.gText, iv (nuV W r2), iv (nuV W r3), .bool false, .slice none 0 0] 34 :: box b3 [iv t1.gKind, .string t1.gText, iv t1.gPlace_Line, iv t1.gPlace_Column] 109 :: box b2 [.slice none 0 0] 24 :: box b1 [.slice ra out.length rc] 24 :: box b [.slice p7 (W.length - r7.j) (c - r7.j), iv el, iv ec, iv r7.pl, iv r7.pc, iv r7.e] 94 :: rowOf tkE a c 109 4 W :: rowOf frmE ra2 rc2 34 5 (out ++ [(⟨t2.gText, nuV W r2, nuV W r3, false, none, 0, 0, []⟩ : Frm)]) :: (L0 ++ tlF out)) w22 := S65.erase 0
   clear S65
   have S67 := S66.nilRow 57 10
   have S68 : Sep w0 (box b4 [.string t2.gText, iv (nuV W r2), iv (nuV W r3), .bool false, .slice none 0 0] 34 :: box b3 [iv t1.gKind, .string t1.gText, iv t1.gPlace_Line, iv t1.gPlace_Column] 109 :: box b2 [.slice none 0 0] 24 :: box b1 [.slice ra out.length rc] 24 :: box b [.slice p7 (W.length - r7.j) (c - r7.j), iv el, iv ec, iv r7.pl, iv r7.pc, iv r7.e] 94 :: rowOf tkE a c 109 4 W :: rowOf frmE ra2 rc2 34 5 (out ++ [(⟨t2.gText, nuV W r2, nuV W r3, false, none, 0, 0, []⟩ : Frm)]) :: (L0 ++ tlF (out ++ [(⟨t2.gText, nuV W r2, nuV W r3, false, none, 0, 0, []⟩ : Frm)]))) w22 := tk_snoc (x := (⟨t2.gText, nuV W r2, nuV W r3, false, none, 0, 0, []⟩ : Frm)) [box b4 [.string t2.gText, iv (nuV W r2), iv (nuV W r3), .bool false, .slice none 0 0] 34, box b3 [iv t1.gKind, .string t1.gText, iv t1.gPlace_Line, iv t1.gPlace_Column] 109, box b2 [.slice none 0 0] 24, box b1 [.slice ra out.length rc] 24, box b [.slice p7 (W.length - r7.j) (c - r7.j), iv el, iv ec, iv r7.pl, iv r7.pc, iv r7.e] 94, rowOf tkE a c 109 4 W, rowOf frmE ra2 rc2 34 5 (out ++ [(⟨t2.gText, nuV W r2, nuV W r3, false, none, 0, 0, []⟩ : Frm)])] S67
   clear S67
   refine J.run 1 K45_23 [(47, .pointer (some ⟨b1, 0, none⟩)), (46, .slice ra2 ((out ++ [(⟨t2.gText, nuV W r2, nuV W r3, false, none, 0, 0, []⟩ : Frm)]).length) rc2), (4, .pointer (some ⟨b2, 0, none⟩)), (3, .pointer (some ⟨b1, 0, none⟩))] w22 (by kernel_rfl) ?_
   refine J.stBox S68 3 22 0 (.slice ra2 ((out ++ [(⟨t2.gText, nuV W r2, nuV W r3, false, none, 0, 0, []⟩ : Frm)]).length) rc2) [.slice ra2 ((out ++ [(⟨t2.gText, nuV W r2, nuV W r3, false, none, 0, 0, []⟩ : Frm)]).length) rc2] (box b4 [.string t2.gText, iv (nuV W r2), iv (nuV W r3), .bool false, .slice none 0 0] 34 :: box b3 [iv t1.gKind, .string t1.gText, iv t1.gPlace_Line, iv t1.gPlace_Column] 109 :: box b2 [.slice none 0 0] 24 :: box b1 [.slice ra2 ((out ++ [(⟨t2.gText, nuV W r2, nuV W r3, false, none, 0, 0, []⟩ : Frm)]).length) rc2] 24 :: box b [.slice p7 (W.length - r7.j) (c - r7.j), iv el, iv ec, iv r7.pl, iv r7.pc, iv r7.e] 94 :: rowOf tkE a c 109 4 W :: rowOf frmE ra2 rc2 34 5 (out ++ [(⟨t2.gText, nuV W r2, nuV W r3, false, none, 0, 0, []⟩ : Frm)]) :: (L0 ++ tlF (out ++ [(⟨t2.gText, nuV W r2, nuV W r3, false, none, 0, 0, []⟩ : Frm)]))) (by kernel_rfl) rfl (by kernel_rfl) (by kernel_rfl) rfl ?_
   intro w23 S69
   refine J.run 3 K45_24 [(4, .pointer (some ⟨b2, 0, none⟩)), (3, .pointer (some ⟨b1, 0, none⟩))] w23 (by kernel_rfl) ?_
   refine J.ok (OK.ldBox S69 3 48 24 0 (.agg #[.slice ra2 ((out ++ [(⟨t2.gText, nuV W r2, nuV W r3, false, none, 0, 0, []⟩ : Frm)]).length) rc2]) (by kernel_rfl) rfl (by kernel_rfl)) ?_
   refine J.stBox S69 2 24 0 (.agg #[.slice ra2 ((out ++ [(⟨t2.gText, nuV W r2, nuV W r3, false, none, 0, 0, []⟩ : Frm)]).length) rc2]) [.slice ra2 ((out ++ [(⟨t2.gText, nuV W r2, nuV W r3, false, none, 0, 0, []⟩ : Frm)]).length) rc2] (box b4 [.string t2.gText, iv (nuV W r2), iv (nuV W r3), .bool false, .slice none 0 0] 34 :: box b3 [iv t1.gKind, .string t1.gText, iv t1.gPlace_Line, iv t1.gPlace_Column] 109 :: box b2 [.slice ra2 ((out ++ [(⟨t2.gText, nuV W r2, nuV W r3, false, none, 0, 0, []⟩ : Frm)]).length) rc2] 24 :: box b1 [.slice ra2 ((out ++ [(⟨t2.gText, nuV W r2, nuV W r3, false, none, 0, 0, []⟩ : Frm)]).length) rc2] 24 :: box b [.slice p7 (W.length - r7.j) (c - r7.j), iv el, iv ec, iv r7.pl, iv r7.pc, iv r7.e] 94 :: rowOf tkE a c 109 4 W :: rowOf frmE ra2 rc2 34 5 (out ++ [(⟨t2.gText, nuV W r2, nuV W r3, false, none, 0, 0, []⟩ : Frm)]) :: (L0 ++ tlF (out ++ [(⟨t2.gText, nuV W r2, nuV W r3, false, none, 0, 0, []⟩ : Frm)]))) (by kernel_rfl) rfl (by kernel_rfl) (by kernel_rfl) rfl ?_
   intro w24 S70
   refine J.run 1 K45_25 [(4, .pointer (some ⟨b2, 0, none⟩))] w24 (by kernel_rfl) ?_
   refine J.ret Tryd.f45 [.agg #[.slice ra2 ((out ++ [(⟨t2.gText, nuV W r2, nuV W r3, false, none, 0, 0, []⟩ : Frm)]).length) rc2]] Tryd.func45 ⟨⟨⟨b2, 0, none⟩, by kernel_rfl, ldV_run (S70.nth 2 rfl) (by kernel_rfl)⟩, trivial⟩ ?_
   refine hR _ _ ?_
   have S71 : Sep w0 (box b [.slice p7 (W.length - r7.j) (c - r7.j), iv el, iv ec, iv r7.pl, iv r7.pc, iv r7.e] 94 :: rowOf tkE a c 109 4 W :: rowOf frmE ra2 rc2 34 5 (out ++ [(⟨t2.gText, nuV W r2, nuV W r3, false, none, 0, 0, []⟩ : Frm)]) :: (L0 ++ tlF (out ++ [(⟨t2.gText, nuV W r2, nuV W r3, false, none, 0, 0, []⟩ : Frm)]))) w24 := S70.sub (.cons _ (.cons _ (.cons _ (.cons _ (.cons_cons _ (.cons_cons _ (.cons_cons _ (List.Sublist.refl _))))))))
   clear S70
   have hgu := gu_no (W := W) (el := el) (ec := ec) (r := r4) (by omega)
   refine ⟨p7, r7, ra2, rc2, out ++ [(⟨t2.gText, nuV W r2, nuV W r3, false, none, 0, 0, []⟩ : Frm)], ln_fr (by rw [← ht1]; exact fk1) ?_ ?_, hp7, hj7, all_snoc hof (okF_of (by omega) _ (nuV_px _ _) (nuV_px _ _)), by rw [List.length_append, List.length_singleton]; omega, all_snoc (Q := fun y => (y.gSignals_l.length : Int) ≤ m + 1) (fun y hy => Int.le_trans (hsl y hy) (by omega)) (show ((0 : Nat) : Int) ≤ m + 1 by omega), rfl, S71⟩
   · subst hr1; subst hr2; subst hr3; subst hr4; subst hr7; unfold lnF; rw [hgu.1] <;> rfl
   · refine fr_map _ ?_; subst hr1; subst hr2; subst hr3; subst hr4; subst hr7; subst ht1; subst ht2; unfold frR; rw [hgu.2] <;> rfl
  refine J.head (.bool true) (congrArg Value.bool (decide_eq_true fk3)) ?_
  refine J.run 3 K45_14 [(37, .pointer (some ⟨b, 0, none⟩)), (6, .pointer (some ⟨b4, 0, none⟩)), (4, .pointer (some ⟨b2, 0, none⟩)), (3, .pointer (some ⟨b1, 0, none⟩)), (0, .pointer (some ⟨b, 0, none⟩))] w12 (by kernel_rfl) ?_
  have S34 := S33.front 5 rfl
  clear S33
  have S35 := S34.front 5 rfl
  clear S34
  refine J.callF 38 69 #[.pointer (some ⟨b, 0, none⟩), .string ⟨#[103, 117, 97, 114, 100, 101, 100]⟩, .string ⟨#[103, 117, 97, 114, 100, 101, 100]⟩] hb69 (by kernel_rfl) (reither_any b a p4 c W el ec r4 (⟨#[103, 117, 97, 114, 100, 101, 100]⟩ : ByteArray) (⟨#[103, 117, 97, 114, 100, 101, 100]⟩ : ByteArray) _ _ _ S35 hp4 hj4) ?_
  rintro _ w13 ⟨p5, r5, hr5, hp5, hj5, rfl, S36⟩
  clear S35
  have S37 := S36.front 5 rfl
  clear S36
  have S38 := S37.front 5 rfl
  clear S37
  have S39 := S38.front 5 rfl
  clear S38
  have S40 : Sep w0 (box b4 [.string t2.gText, iv (nuV W r2), iv (nuV W r3), .bool false, .slice none 0 0] 34 :: box b3 [iv t1.gKind, .string t1.gText, iv t1.gPlace_Line, iv t1.gPlace_Column] 109 :: box b2 [.slice none 0 0] 24 :: box b1 [.slice ra out.length rc] 24 :: box b [.slice p5 (W.length - r5.j) (c - r5.j), iv el, iv ec, iv r5.pl, iv r5.pc, iv r5.e] 94 :: rowOf tkE a c 109 4 W :: rowOf frmE ra rc 34 5 out :: (L0 ++ tlF out)) w13 := S39.front 5 rfl
  clear S39
  refine J.run 1 K45_15 [(39, .pointer (some ⟨b4, 3, none⟩)), (38, .bool (eqT (nxT W r4).gText (⟨#[103, 117, 97, 114, 100, 101, 100]⟩ : ByteArray))), (6, .pointer (some ⟨b4, 0, none⟩)), (4, .pointer (some ⟨b2, 0, none⟩)), (3, .pointer (some ⟨b1, 0, none⟩)), (0, .pointer (some ⟨b, 0, none⟩))] w13 (by kernel_rfl) ?_
  refine J.stBox S40 0 4 3 (.bool (eqT (nxT W r4).gText (⟨#[103, 117, 97, 114, 100, 101, 100]⟩ : ByteArray))) [.string t2.gText, iv (nuV W r2), iv (nuV W r3), .bool (eqT (nxT W r4).gText (⟨#[103, 117, 97, 114, 100, 101, 100]⟩ : ByteArray)), .slice none 0 0] (box b4 [.string t2.gText, iv (nuV W r2), iv (nuV W r3), .bool (eqT (nxT W r4).gText (⟨#[103, 117, 97, 114, 100, 101, 100]⟩ : ByteArray)), .slice none 0 0] 34 :: box b3 [iv t1.gKind, .string t1.gText, iv t1.gPlace_Line, iv t1.gPlace_Column] 109 :: box b2 [.slice none 0 0] 24 :: box b1 [.slice ra out.length rc] 24 :: box b [.slice p5 (W.length - r5.j) (c - r5.j), iv el, iv ec, iv r5.pl, iv r5.pc, iv r5.e] 94 :: rowOf tkE a c 109 4 W :: rowOf frmE ra rc 34 5 out :: (L0 ++ tlF out)) (by kernel_rfl) rfl (by kernel_rfl) (by kernel_rfl) rfl ?_
  intro w14 S41
  refine J.run 4 K45_16 [(40, .pointer (some ⟨b, 0, none⟩)), (6, .pointer (some ⟨b4, 0, none⟩)), (4, .pointer (some ⟨b2, 0, none⟩)), (3, .pointer (some ⟨b1, 0, none⟩))] w14 (by kernel_rfl) ?_
  have S42 := S41.front 5 rfl
  clear S41
  have S43 := S42.front 5 rfl
  clear S42
  refine J.callF 41 70 #[.pointer (some ⟨b, 0, none⟩)] hb70 (by kernel_rfl) (rend_any b a p5 c W el ec r5 _ _ _ S43 hp5 hj5) ?_
  rintro _ w15 ⟨p6, r6, hr6, hp6, hj6, rfl, S44⟩
  clear S43
  have S45 := S44.front 5 rfl
  clear S44
  have S46 := S45.front 5 rfl
  clear S45
  have S47 := S46.front 5 rfl
  clear S46
  have S48 : Sep w0 (box b4 [.string t2.gText, iv (nuV W r2), iv (nuV W r3), .bool (eqT (nxT W r4).gText (⟨#[103, 117, 97, 114, 100, 101, 100]⟩ : ByteArray)), .slice none 0 0] 34 :: box b3 [iv t1.gKind, .string t1.gText, iv t1.gPlace_Line, iv t1.gPlace_Column] 109 :: box b2 [.slice none 0 0] 24 :: box b1 [.slice ra out.length rc] 24 :: box b [.slice p6 (W.length - r6.j) (c - r6.j), iv el, iv ec, iv r6.pl, iv r6.pc, iv r6.e] 94 :: rowOf tkE a c 109 4 W :: rowOf frmE ra rc 34 5 out :: (L0 ++ tlF out)) w15 := S47.front 5 rfl
  clear S47
  refine J.run 4 K45_17 [(42, .pointer (some ⟨b1, 0, none⟩)), (6, .pointer (some ⟨b4, 0, none⟩)), (4, .pointer (some ⟨b2, 0, none⟩)), (3, .pointer (some ⟨b1, 0, none⟩))] w15 (by kernel_rfl) ?_
  refine J.ok (OK.ldBox S48 3 43 22 0 (.slice ra out.length rc) (by kernel_rfl) rfl (by kernel_rfl)) ?_
  refine J.ok (OK.ldBox S48 0 44 34 0 (.agg #[.string t2.gText, iv (nuV W r2), iv (nuV W r3), .bool (eqT (nxT W r4).gText (⟨#[103, 117, 97, 114, 100, 101, 100]⟩ : ByteArray)), .slice none 0 0]) (by kernel_rfl) rfl (by kernel_rfl)) ?_
  refine J.newSlice S48 45 1 [.string t2.gText, iv (nuV W r2), iv (nuV W r3), .bool (eqT (nxT W r4).gText (⟨#[103, 117, 97, 114, 100, 101, 100]⟩ : ByteArray)), .slice none 0 0] 34 (by kernel_rfl) ?_
  intro b5 w16 S49
  refine J.append frmE S49 7 out (⟨t2.gText, nuV W r2, nuV W r3, (eqT (nxT W r4).gText (⟨#[103, 117, 97, 114, 100, 101, 100]⟩ : ByteArray)), none, 0, 0, []⟩ : Frm) 46 22 (.agg #[.string ByteArray.empty, iv 0, iv 0, .bool false, .slice none 0 0]) 64 ⟨b5, 0, none⟩ 1 rfl (by kernel_rfl) (by kernel_rfl) (by kernel_rfl) (by kernel_rfl) (by decide) (box_cells (S49.nth 0 rfl)) (by kernel_rfl) (by kernel_rfl) (⟨by omega, by omega⟩) ?_
  intro ra1 rc1 w17 S50
  replace S50 : Sep w0 (box b5 [.string t2.gText, iv (nuV W r2), iv (nuV W r3), .bool (eqT (nxT W r4).gText (⟨#[103, 117, 97, 114, 100, 101, 100]⟩ : ByteArray)), .slice none 0 0] 34 :: box b4 [.string t2.gText, iv (nuV W r2), iv (nuV W r3), .bool (eqT (nxT W r4).gText (⟨#[103, 117, 97, 114, 100, 101, 100]⟩ : ByteArray)), .slice none 0 0] 34 :: box b3 [iv t1.gKind, .string t1.gText, iv t1.gPlace_Line, iv t1.gPlace_Column] 109 :: box b2 [.slice none 0 0] 24 :: box b1 [.slice ra out.length rc] 24 :: box b [.slice p6 (W.length - r6.j) (c - r6.j), iv el, iv ec, iv r6.pl, iv r6.pc, iv r6.e] 94 :: rowOf tkE a c 109 4 W :: rowOf frmE ra1 rc1 34 5 (out ++ [(⟨t2.gText, nuV W r2, nuV W r3, (eqT (nxT W r4).gText (⟨#[103, 117, 97, 114, 100, 101, 100]⟩ : ByteArray)), none, 0, 0, []⟩ : Frm)]) :: (L0 ++ tlF out)) w17 := S50
  have S51 : Sep w0 (box b4 [.string t2.gText, iv (nuV W r2), iv (nuV W r3), .bool (eqT (nxT W r4).gText (⟨#[103, 117, 97, 114, 100, 101, 100]⟩ : ByteArray)), .slice none 0 0] 34 :: box b3 [iv t1.gKind, .string t1.gText, iv t1.gPlace_Line, iv t1.gPlace_Column] 109 :: box b2 [.slice none 0 0] 24 :: box b1 [.slice ra out.length rc] 24 :: box b [.slice p6 (W.length - r6.j) (c - r6.j), iv el, iv ec, iv r6.pl, iv r6.pc, iv r6.e] 94 :: rowOf tkE a c 109 4 W :: rowOf frmE ra1 rc1 34 5 (out ++ [(⟨t2.gText, nuV W r2, nuV W r3, (eqT (nxT W r4).gText (⟨#[103, 117, 97, 114, 100, 101, 100]⟩ : ByteArray)), none, 0, 0, []⟩ : Frm)]) :: (L0 ++ tlF out)) w17 := S50.erase 0
  clear S50
  have S52 := S51.nilRow 57 10
  have S53 : Sep w0 (box b4 [.string t2.gText, iv (nuV W r2), iv (nuV W r3), .bool (eqT (nxT W r4).gText (⟨#[103, 117, 97, 114, 100, 101, 100]⟩ : ByteArray)), .slice none 0 0] 34 :: box b3 [iv t1.gKind, .string t1.gText, iv t1.gPlace_Line, iv t1.gPlace_Column] 109 :: box b2 [.slice none 0 0] 24 :: box b1 [.slice ra out.length rc] 24 :: box b [.slice p6 (W.length - r6.j) (c - r6.j), iv el, iv ec, iv r6.pl, iv r6.pc, iv r6.e] 94 :: rowOf tkE a c 109 4 W :: rowOf frmE ra1 rc1 34 5 (out ++ [(⟨t2.gText, nuV W r2, nuV W r3, (eqT (nxT W r4).gText (⟨#[103, 117, 97, 114, 100, 101, 100]⟩ : ByteArray)), none, 0, 0, []⟩ : Frm)]) :: (L0 ++ tlF (out ++ [(⟨t2.gText, nuV W r2, nuV W r3, (eqT (nxT W r4).gText (⟨#[103, 117, 97, 114, 100, 101, 100]⟩ : ByteArray)), none, 0, 0, []⟩ : Frm)]))) w17 := tk_snoc (x := (⟨t2.gText, nuV W r2, nuV W r3, (eqT (nxT W r4).gText (⟨#[103, 117, 97, 114, 100, 101, 100]⟩ : ByteArray)), none, 0, 0, []⟩ : Frm)) [box b4 [.string t2.gText, iv (nuV W r2), iv (nuV W r3), .bool (eqT (nxT W r4).gText (⟨#[103, 117, 97, 114, 100, 101, 100]⟩ : ByteArray)), .slice none 0 0] 34, box b3 [iv t1.gKind, .string t1.gText, iv t1.gPlace_Line, iv t1.gPlace_Column] 109, box b2 [.slice none 0 0] 24, box b1 [.slice ra out.length rc] 24, box b [.slice p6 (W.length - r6.j) (c - r6.j), iv el, iv ec, iv r6.pl, iv r6.pc, iv r6.e] 94, rowOf tkE a c 109 4 W, rowOf frmE ra1 rc1 34 5 (out ++ [(⟨t2.gText, nuV W r2, nuV W r3, (eqT (nxT W r4).gText (⟨#[103, 117, 97, 114, 100, 101, 100]⟩ : ByteArray)), none, 0, 0, []⟩ : Frm)])] S52
  clear S52
  refine J.run 1 K45_18 [(47, .pointer (some ⟨b1, 0, none⟩)), (46, .slice ra1 ((out ++ [(⟨t2.gText, nuV W r2, nuV W r3, (eqT (nxT W r4).gText (⟨#[103, 117, 97, 114, 100, 101, 100]⟩ : ByteArray)), none, 0, 0, []⟩ : Frm)]).length) rc1), (4, .pointer (some ⟨b2, 0, none⟩)), (3, .pointer (some ⟨b1, 0, none⟩))] w17 (by kernel_rfl) ?_
  refine J.stBox S53 3 22 0 (.slice ra1 ((out ++ [(⟨t2.gText, nuV W r2, nuV W r3, (eqT (nxT W r4).gText (⟨#[103, 117, 97, 114, 100, 101, 100]⟩ : ByteArray)), none, 0, 0, []⟩ : Frm)]).length) rc1) [.slice ra1 ((out ++ [(⟨t2.gText, nuV W r2, nuV W r3, (eqT (nxT W r4).gText (⟨#[103, 117, 97, 114, 100, 101, 100]⟩ : ByteArray)), none, 0, 0, []⟩ : Frm)]).length) rc1] (box b4 [.string t2.gText, iv (nuV W r2), iv (nuV W r3), .bool (eqT (nxT W r4).gText (⟨#[103, 117, 97, 114, 100, 101, 100]⟩ : ByteArray)), .slice none 0 0] 34 :: box b3 [iv t1.gKind, .string t1.gText, iv t1.gPlace_Line, iv t1.gPlace_Column] 109 :: box b2 [.slice none 0 0] 24 :: box b1 [.slice ra1 ((out ++ [(⟨t2.gText, nuV W r2, nuV W r3, (eqT (nxT W r4).gText (⟨#[103, 117, 97, 114, 100, 101, 100]⟩ : ByteArray)), none, 0, 0, []⟩ : Frm)]).length) rc1] 24 :: box b [.slice p6 (W.length - r6.j) (c - r6.j), iv el, iv ec, iv r6.pl, iv r6.pc, iv r6.e] 94 :: rowOf tkE a c 109 4 W :: rowOf frmE ra1 rc1 34 5 (out ++ [(⟨t2.gText, nuV W r2, nuV W r3, (eqT (nxT W r4).gText (⟨#[103, 117, 97, 114, 100, 101, 100]⟩ : ByteArray)), none, 0, 0, []⟩ : Frm)]) :: (L0 ++ tlF (out ++ [(⟨t2.gText, nuV W r2, nuV W r3, (eqT (nxT W r4).gText (⟨#[103, 117, 97, 114, 100, 101, 100]⟩ : ByteArray)), none, 0, 0, []⟩ : Frm)]))) (by kernel_rfl) rfl (by kernel_rfl) (by kernel_rfl) rfl ?_
  intro w18 S54
  refine J.run 3 K45_19 [(4, .pointer (some ⟨b2, 0, none⟩)), (3, .pointer (some ⟨b1, 0, none⟩))] w18 (by kernel_rfl) ?_
  refine J.ok (OK.ldBox S54 3 48 24 0 (.agg #[.slice ra1 ((out ++ [(⟨t2.gText, nuV W r2, nuV W r3, (eqT (nxT W r4).gText (⟨#[103, 117, 97, 114, 100, 101, 100]⟩ : ByteArray)), none, 0, 0, []⟩ : Frm)]).length) rc1]) (by kernel_rfl) rfl (by kernel_rfl)) ?_
  refine J.stBox S54 2 24 0 (.agg #[.slice ra1 ((out ++ [(⟨t2.gText, nuV W r2, nuV W r3, (eqT (nxT W r4).gText (⟨#[103, 117, 97, 114, 100, 101, 100]⟩ : ByteArray)), none, 0, 0, []⟩ : Frm)]).length) rc1]) [.slice ra1 ((out ++ [(⟨t2.gText, nuV W r2, nuV W r3, (eqT (nxT W r4).gText (⟨#[103, 117, 97, 114, 100, 101, 100]⟩ : ByteArray)), none, 0, 0, []⟩ : Frm)]).length) rc1] (box b4 [.string t2.gText, iv (nuV W r2), iv (nuV W r3), .bool (eqT (nxT W r4).gText (⟨#[103, 117, 97, 114, 100, 101, 100]⟩ : ByteArray)), .slice none 0 0] 34 :: box b3 [iv t1.gKind, .string t1.gText, iv t1.gPlace_Line, iv t1.gPlace_Column] 109 :: box b2 [.slice ra1 ((out ++ [(⟨t2.gText, nuV W r2, nuV W r3, (eqT (nxT W r4).gText (⟨#[103, 117, 97, 114, 100, 101, 100]⟩ : ByteArray)), none, 0, 0, []⟩ : Frm)]).length) rc1] 24 :: box b1 [.slice ra1 ((out ++ [(⟨t2.gText, nuV W r2, nuV W r3, (eqT (nxT W r4).gText (⟨#[103, 117, 97, 114, 100, 101, 100]⟩ : ByteArray)), none, 0, 0, []⟩ : Frm)]).length) rc1] 24 :: box b [.slice p6 (W.length - r6.j) (c - r6.j), iv el, iv ec, iv r6.pl, iv r6.pc, iv r6.e] 94 :: rowOf tkE a c 109 4 W :: rowOf frmE ra1 rc1 34 5 (out ++ [(⟨t2.gText, nuV W r2, nuV W r3, (eqT (nxT W r4).gText (⟨#[103, 117, 97, 114, 100, 101, 100]⟩ : ByteArray)), none, 0, 0, []⟩ : Frm)]) :: (L0 ++ tlF (out ++ [(⟨t2.gText, nuV W r2, nuV W r3, (eqT (nxT W r4).gText (⟨#[103, 117, 97, 114, 100, 101, 100]⟩ : ByteArray)), none, 0, 0, []⟩ : Frm)]))) (by kernel_rfl) rfl (by kernel_rfl) (by kernel_rfl) rfl ?_
  intro w19 S55
  refine J.run 1 K45_20 [(4, .pointer (some ⟨b2, 0, none⟩))] w19 (by kernel_rfl) ?_
  refine J.ret Tryd.f45 [.agg #[.slice ra1 ((out ++ [(⟨t2.gText, nuV W r2, nuV W r3, (eqT (nxT W r4).gText (⟨#[103, 117, 97, 114, 100, 101, 100]⟩ : ByteArray)), none, 0, 0, []⟩ : Frm)]).length) rc1]] Tryd.func45 ⟨⟨⟨b2, 0, none⟩, by kernel_rfl, ldV_run (S55.nth 2 rfl) (by kernel_rfl)⟩, trivial⟩ ?_
  refine hR _ _ ?_
  have S56 : Sep w0 (box b [.slice p6 (W.length - r6.j) (c - r6.j), iv el, iv ec, iv r6.pl, iv r6.pc, iv r6.e] 94 :: rowOf tkE a c 109 4 W :: rowOf frmE ra1 rc1 34 5 (out ++ [(⟨t2.gText, nuV W r2, nuV W r3, (eqT (nxT W r4).gText (⟨#[103, 117, 97, 114, 100, 101, 100]⟩ : ByteArray)), none, 0, 0, []⟩ : Frm)]) :: (L0 ++ tlF (out ++ [(⟨t2.gText, nuV W r2, nuV W r3, (eqT (nxT W r4).gText (⟨#[103, 117, 97, 114, 100, 101, 100]⟩ : ByteArray)), none, 0, 0, []⟩ : Frm)]))) w19 := S55.sub (.cons _ (.cons _ (.cons _ (.cons _ (.cons_cons _ (.cons_cons _ (.cons_cons _ (List.Sublist.refl _))))))))
  clear S55
  have hgu := gu_yes (W := W) (el := el) (ec := ec) (r := r4) fk2 (by omega)
  refine ⟨p6, r6, ra1, rc1, out ++ [(⟨t2.gText, nuV W r2, nuV W r3, (eqT (nxT W r4).gText (⟨#[103, 117, 97, 114, 100, 101, 100]⟩ : ByteArray)), none, 0, 0, []⟩ : Frm)], ln_fr (by rw [← ht1]; exact fk1) ?_ ?_, hp6, hj6, all_snoc hof (okF_of (by omega) _ (nuV_px _ _) (nuV_px _ _)), by rw [List.length_append, List.length_singleton]; omega, all_snoc (Q := fun y => (y.gSignals_l.length : Int) ≤ m + 1) (fun y hy => Int.le_trans (hsl y hy) (by omega)) (show ((0 : Nat) : Int) ≤ m + 1 by omega), rfl, S56⟩
  · subst hr1; subst hr2; subst hr3; subst hr4; subst hr5; subst hr6; unfold lnF; rw [hgu.1] <;> rfl
  · refine fr_map _ ?_; subst hr1; subst hr2; subst hr3; subst hr4; subst hr5; subst hr6; subst ht1; subst ht2; unfold frR; rw [hgu.2] <;> rfl
 refine J.head (.bool false) (congrArg Value.bool fk1) ?_
 refine J.run 6 K45_31 [(49, .pointer (some ⟨b3, 1, none⟩)), (5, .pointer (some ⟨b3, 0, none⟩)), (4, .pointer (some ⟨b2, 0, none⟩)), (3, .pointer (some ⟨b1, 0, none⟩)), (0, .pointer (some ⟨b, 0, none⟩))] w5 (by kernel_rfl) ?_
 refine J.ok (OK.ldBox S9 0 50 9 1 (.string t1.gText) (by kernel_rfl) rfl (by kernel_rfl)) ?_
 refine J.run 2 K45_32 [(52, .bool (!(t1.gText.toList == (⟨#[115, 105, 103, 110, 97, 108]⟩ : ByteArray).toList))), (5, .pointer (some ⟨b3, 0, none⟩)), (4, .pointer (some ⟨b2, 0, none⟩)), (3, .pointer (some ⟨b1, 0, none⟩)), (0, .pointer (some ⟨b, 0, none⟩))] w5 (by kernel_rfl) ?_
 rcases Bool.eq_false_or_eq_true (!(t1.gText.toList == (⟨#[115, 105, 103, 110, 97, 108]⟩ : ByteArray).toList)) with fk4 | fk4
 ·skip
  refine J.head (.bool true) (congrArg Value.bool fk4) ?_
  refine J.run 10 K45_33 [(58, .pointer (some ⟨b, 0, none⟩)), (5, .pointer (some ⟨b3, 0, none⟩)), (4, .pointer (some ⟨b2, 0, none⟩)), (3, .pointer (some ⟨b1, 0, none⟩))] w5 (by kernel_rfl) ?_
  refine J.ok (OK.ldBox S9 0 59 109 0 (.agg #[iv t1.gKind, .string t1.gText, iv t1.gPlace_Line, iv t1.gPlace_Column]) (by kernel_rfl) rfl (by kernel_rfl)) ?_
  have S87 := S9.front 3 rfl
  clear S9
  refine J.callF 60 71 #[.pointer (some ⟨b, 0, none⟩), .agg #[iv t1.gKind, .string t1.gText, iv t1.gPlace_Line, iv t1.gPlace_Column]] hb71 (by kernel_rfl) (rrefuse_any b (.slice p1 (W.length - r1.j) (c - r1.j)) el ec r1 t1 _ _ _ S87) ?_
  rintro _ w30 ⟨r9, hr9, rfl, S88⟩
  clear S87
  have hj9 : r9.j = r1.j := by rw [hr9]; exact rf_j _ _
  have hp9 : subP a c r9.j p1 := by rw [hj9]; exact hp1
  have hj10 : r9.j ≤ W.length := by rw [hj9]; exact hj1
  rw [← hj9] at S88
  have S89 := S88.front 3 rfl
  clear S88
  have S90 := S89.front 3 rfl
  clear S89
  have S91 : Sep w0 (box b3 [iv t1.gKind, .string t1.gText, iv t1.gPlace_Line, iv t1.gPlace_Column] 109 :: box b2 [.slice none 0 0] 24 :: box b1 [.slice ra out.length rc] 24 :: box b [.slice p1 (W.length - r9.j) (c - r9.j), iv el, iv ec, iv r9.pl, iv r9.pc, iv r9.e] 94 :: rowOf tkE a c 109 4 W :: rowOf frmE ra rc 34 5 out :: (L0 ++ tlF out)) w30 := S90.front 3 rfl
  clear S90
  refine J.run 3 K45_34 [(4, .pointer (some ⟨b2, 0, none⟩)), (3, .pointer (some ⟨b1, 0, none⟩))] w30 (by kernel_rfl) ?_
  refine J.ok (OK.ldBox S91 2 61 24 0 (.agg #[.slice ra out.length rc]) (by kernel_rfl) rfl (by kernel_rfl)) ?_
  refine J.stBox S91 1 24 0 (.agg #[.slice ra out.length rc]) [.slice ra out.length rc] (box b3 [iv t1.gKind, .string t1.gText, iv t1.gPlace_Line, iv t1.gPlace_Column] 109 :: box b2 [.slice ra out.length rc] 24 :: box b1 [.slice ra out.length rc] 24 :: box b [.slice p1 (W.length - r9.j) (c - r9.j), iv el, iv ec, iv r9.pl, iv r9.pc, iv r9.e] 94 :: rowOf tkE a c 109 4 W :: rowOf frmE ra rc 34 5 out :: (L0 ++ tlF out)) (by kernel_rfl) rfl (by kernel_rfl) (by kernel_rfl) rfl ?_
  intro w31 S92
  refine J.run 1 K45_35 [(4, .pointer (some ⟨b2, 0, none⟩))] w31 (by kernel_rfl) ?_
  refine J.ret Tryd.f45 [.agg #[.slice ra out.length rc]] Tryd.func45 ⟨⟨⟨b2, 0, none⟩, by kernel_rfl, ldV_run (S92.nth 1 rfl) (by kernel_rfl)⟩, trivial⟩ ?_
  refine hR _ _ ?_
  have S93 : Sep w0 (box b [.slice p1 (W.length - r9.j) (c - r9.j), iv el, iv ec, iv r9.pl, iv r9.pc, iv r9.e] 94 :: rowOf tkE a c 109 4 W :: rowOf frmE ra rc 34 5 out :: (L0 ++ tlF out)) w31 := S92.sub (.cons _ (.cons _ (.cons _ (.cons_cons _ (.cons_cons _ (.cons_cons _ (List.Sublist.refl _)))))))
  clear S92
  exact ⟨p1, r9, ra, rc, out, ln_no (by rw [← ht1]; exact fk1) (.inl (by rw [← ht1]; exact nb fk4)) (by subst hr1; subst hr9; subst ht1; rfl), hp9, hj10, hof, by omega, fun y hy => Int.le_trans (hsl y hy) (by omega), rfl, S93⟩
 refine J.head (.bool false) (congrArg Value.bool fk4) ?_
 refine J.run 1 K45_36 [(53, .pointer (some ⟨b1, 0, none⟩)), (52, .bool false), (5, .pointer (some ⟨b3, 0, none⟩)), (4, .pointer (some ⟨b2, 0, none⟩)), (3, .pointer (some ⟨b1, 0, none⟩)), (0, .pointer (some ⟨b, 0, none⟩))] w5 (by kernel_rfl) ?_
 refine J.ok (OK.ldBox S9 2 54 22 0 (.slice ra out.length rc) (by kernel_rfl) rfl (by kernel_rfl)) ?_
 refine J.run 4 K45_37 [(57, .bool ((out.length : Int) == 0)), (5, .pointer (some ⟨b3, 0, none⟩)), (4, .pointer (some ⟨b2, 0, none⟩)), (3, .pointer (some ⟨b1, 0, none⟩)), (0, .pointer (some ⟨b, 0, none⟩))] w5 (by kernel_rfl) ?_
 by_cases fk5 : (out.length : Int) = 0
 ·skip
  refine J.head (.bool true) (congrArg Value.bool (beq_iff_eq.2 fk5)) ?_
  refine J.run 4 K45_38 [(58, .pointer (some ⟨b, 0, none⟩)), (5, .pointer (some ⟨b3, 0, none⟩)), (4, .pointer (some ⟨b2, 0, none⟩)), (3, .pointer (some ⟨b1, 0, none⟩))] w5 (by kernel_rfl) ?_
  refine J.ok (OK.ldBox S9 0 59 109 0 (.agg #[iv t1.gKind, .string t1.gText, iv t1.gPlace_Line, iv t1.gPlace_Column]) (by kernel_rfl) rfl (by kernel_rfl)) ?_
  have S94 := S9.front 3 rfl
  clear S9
  refine J.callF 60 71 #[.pointer (some ⟨b, 0, none⟩), .agg #[iv t1.gKind, .string t1.gText, iv t1.gPlace_Line, iv t1.gPlace_Column]] hb71 (by kernel_rfl) (rrefuse_any b (.slice p1 (W.length - r1.j) (c - r1.j)) el ec r1 t1 _ _ _ S94) ?_
  rintro _ w32 ⟨r10, hr10, rfl, S95⟩
  clear S94
  have hj11 : r10.j = r1.j := by rw [hr10]; exact rf_j _ _
  have hp10 : subP a c r10.j p1 := by rw [hj11]; exact hp1
  have hj12 : r10.j ≤ W.length := by rw [hj11]; exact hj1
  rw [← hj11] at S95
  have S96 := S95.front 3 rfl
  clear S95
  have S97 := S96.front 3 rfl
  clear S96
  have S98 : Sep w0 (box b3 [iv t1.gKind, .string t1.gText, iv t1.gPlace_Line, iv t1.gPlace_Column] 109 :: box b2 [.slice none 0 0] 24 :: box b1 [.slice ra out.length rc] 24 :: box b [.slice p1 (W.length - r10.j) (c - r10.j), iv el, iv ec, iv r10.pl, iv r10.pc, iv r10.e] 94 :: rowOf tkE a c 109 4 W :: rowOf frmE ra rc 34 5 out :: (L0 ++ tlF out)) w32 := S97.front 3 rfl
  clear S97
  refine J.run 3 K45_39 [(4, .pointer (some ⟨b2, 0, none⟩)), (3, .pointer (some ⟨b1, 0, none⟩))] w32 (by kernel_rfl) ?_
  refine J.ok (OK.ldBox S98 2 61 24 0 (.agg #[.slice ra out.length rc]) (by kernel_rfl) rfl (by kernel_rfl)) ?_
  refine J.stBox S98 1 24 0 (.agg #[.slice ra out.length rc]) [.slice ra out.length rc] (box b3 [iv t1.gKind, .string t1.gText, iv t1.gPlace_Line, iv t1.gPlace_Column] 109 :: box b2 [.slice ra out.length rc] 24 :: box b1 [.slice ra out.length rc] 24 :: box b [.slice p1 (W.length - r10.j) (c - r10.j), iv el, iv ec, iv r10.pl, iv r10.pc, iv r10.e] 94 :: rowOf tkE a c 109 4 W :: rowOf frmE ra rc 34 5 out :: (L0 ++ tlF out)) (by kernel_rfl) rfl (by kernel_rfl) (by kernel_rfl) rfl ?_
  intro w33 S99
  refine J.run 1 K45_40 [(4, .pointer (some ⟨b2, 0, none⟩))] w33 (by kernel_rfl) ?_
  refine J.ret Tryd.f45 [.agg #[.slice ra out.length rc]] Tryd.func45 ⟨⟨⟨b2, 0, none⟩, by kernel_rfl, ldV_run (S99.nth 1 rfl) (by kernel_rfl)⟩, trivial⟩ ?_
  refine hR _ _ ?_
  have S100 : Sep w0 (box b [.slice p1 (W.length - r10.j) (c - r10.j), iv el, iv ec, iv r10.pl, iv r10.pc, iv r10.e] 94 :: rowOf tkE a c 109 4 W :: rowOf frmE ra rc 34 5 out :: (L0 ++ tlF out)) w33 := S99.sub (.cons _ (.cons _ (.cons _ (.cons_cons _ (.cons_cons _ (.cons_cons _ (List.Sublist.refl _)))))))
  clear S99
  exact ⟨p1, r10, ra, rc, out, ln_no (by rw [← ht1]; exact fk1) (.inr (by omega)) (by subst hr1; subst hr10; subst ht1; rfl), hp10, hj12, hof, by omega, fun y hy => Int.le_trans (hsl y hy) (by omega), rfl, S100⟩
 refine J.head (.bool false) (congrArg Value.bool (beq_eq_false_iff_ne.2 fk5)) ?_
 refine J.run 5 K45_41 [(62, .pointer (some ⟨b, 0, none⟩)), (4, .pointer (some ⟨b2, 0, none⟩)), (3, .pointer (some ⟨b1, 0, none⟩)), (0, .pointer (some ⟨b, 0, none⟩))] w5 (by kernel_rfl) ?_
 have S101 := S9.front 4 rfl
 clear S9
 have S102 := S101.front 4 rfl
 clear S101
 refine J.callF 63 67 #[.pointer (some ⟨b, 0, none⟩)] hb67 (by kernel_rfl) (rnext_any b a p1 c W el ec r1 _ _ _ S102 hp1 hj1) ?_
 rintro _ w34 ⟨p9, r11, t3, hr11, ht3, hp11, hj13, rfl, S103⟩
 clear S102
 have S104 := S103.front 4 rfl
 clear S103
 have S105 := S104.front 4 rfl
 clear S104
 have S106 : Sep w0 (box b3 [iv t1.gKind, .string t1.gText, iv t1.gPlace_Line, iv t1.gPlace_Column] 109 :: box b2 [.slice none 0 0] 24 :: box b1 [.slice ra out.length rc] 24 :: box b [.slice p9 (W.length - r11.j) (c - r11.j), iv el, iv ec, iv r11.pl, iv r11.pc, iv r11.e] 94 :: rowOf tkE a c 109 4 W :: rowOf frmE ra rc 34 5 out :: (L0 ++ tlF out)) w34 := S105.front 4 rfl
 clear S105
 have z_t3 : t3.gText.size ≤ 1000000 := by rw [ht3]; exact nt_size hts
 refine J.run 2 K45_42 [(65, .agg #[.string t3.gText, iv 0, iv 0, .bool false, .bool false, iv 0, iv 0, iv 0, iv 0, iv 0]), (4, .pointer (some ⟨b2, 0, none⟩)), (3, .pointer (some ⟨b1, 0, none⟩)), (0, .pointer (some ⟨b, 0, none⟩))] w34 (by kernel_rfl) ?_
 refine J.new S106 7 [.string ByteArray.empty, iv 0, iv 0, .bool false, .bool false, iv 0, iv 0, iv 0, iv 0, iv 0] 57 (by kernel_rfl) ?_
 intro b8 w35 S107
 refine J.stBox S107 0 57 0 (.agg #[.string t3.gText, iv 0, iv 0, .bool false, .bool false, iv 0, iv 0, iv 0, iv 0, iv 0]) [.string t3.gText, iv 0, iv 0, .bool false, .bool false, iv 0, iv 0, iv 0, iv 0, iv 0] (box b8 [.string t3.gText, iv 0, iv 0, .bool false, .bool false, iv 0, iv 0, iv 0, iv 0, iv 0] 57 :: box b3 [iv t1.gKind, .string t1.gText, iv t1.gPlace_Line, iv t1.gPlace_Column] 109 :: box b2 [.slice none 0 0] 24 :: box b1 [.slice ra out.length rc] 24 :: box b [.slice p9 (W.length - r11.j) (c - r11.j), iv el, iv ec, iv r11.pl, iv r11.pc, iv r11.e] 94 :: rowOf tkE a c 109 4 W :: rowOf frmE ra rc 34 5 out :: (L0 ++ tlF out)) (by kernel_rfl) rfl (by kernel_rfl) (by kernel_rfl) rfl ?_
 intro w36 S108
 refine J.run 4 K45_43 [(66, .pointer (some ⟨b, 0, none⟩)), (7, .pointer (some ⟨b8, 0, none⟩)), (4, .pointer (some ⟨b2, 0, none⟩)), (3, .pointer (some ⟨b1, 0, none⟩)), (0, .pointer (some ⟨b, 0, none⟩))] w36 (by kernel_rfl) ?_
 have S109 := S108.front 5 rfl
 clear S108
 have S110 := S109.front 5 rfl
 clear S109
 refine J.callF 67 68 #[.pointer (some ⟨b, 0, none⟩)] hb68 (by kernel_rfl) (rnumber_any b a p9 c W el ec r11 _ _ _ S110 hp11 hj13 hts) ?_
 rintro _ w37 ⟨p10, r12, hr12, hp12, hj14, rfl, S111⟩
 clear S110
 have S112 := S111.front 5 rfl
 clear S111
 have S113 := S112.front 5 rfl
 clear S112
 have S114 := S113.front 5 rfl
 clear S113
 have S115 : Sep w0 (box b8 [.string t3.gText, iv 0, iv 0, .bool false, .bool false, iv 0, iv 0, iv 0, iv 0, iv 0] 57 :: box b3 [iv t1.gKind, .string t1.gText, iv t1.gPlace_Line, iv t1.gPlace_Column] 109 :: box b2 [.slice none 0 0] 24 :: box b1 [.slice ra out.length rc] 24 :: box b [.slice p10 (W.length - r12.j) (c - r12.j), iv el, iv ec, iv r12.pl, iv r12.pc, iv r12.e] 94 :: rowOf tkE a c 109 4 W :: rowOf frmE ra rc 34 5 out :: (L0 ++ tlF out)) w37 := S114.front 5 rfl
 clear S114
 refine J.run 1 K45_44 [(68, .pointer (some ⟨b8, 1, none⟩)), (67, iv (nuV W r11)), (7, .pointer (some ⟨b8, 0, none⟩)), (4, .pointer (some ⟨b2, 0, none⟩)), (3, .pointer (some ⟨b1, 0, none⟩)), (0, .pointer (some ⟨b, 0, none⟩))] w37 (by kernel_rfl) ?_
 refine J.stBox S115 0 3 1 (iv (nuV W r11)) [.string t3.gText, iv (nuV W r11), iv 0, .bool false, .bool false, iv 0, iv 0, iv 0, iv 0, iv 0] (box b8 [.string t3.gText, iv (nuV W r11), iv 0, .bool false, .bool false, iv 0, iv 0, iv 0, iv 0, iv 0] 57 :: box b3 [iv t1.gKind, .string t1.gText, iv t1.gPlace_Line, iv t1.gPlace_Column] 109 :: box b2 [.slice none 0 0] 24 :: box b1 [.slice ra out.length rc] 24 :: box b [.slice p10 (W.length - r12.j) (c - r12.j), iv el, iv ec, iv r12.pl, iv r12.pc, iv r12.e] 94 :: rowOf tkE a c 109 4 W :: rowOf frmE ra rc 34 5 out :: (L0 ++ tlF out)) (by kernel_rfl) rfl (by kernel_rfl) (by kernel_rfl) rfl ?_
 intro w38 S116
 refine J.run 4 K45_45 [(69, .pointer (some ⟨b, 0, none⟩)), (7, .pointer (some ⟨b8, 0, none⟩)), (4, .pointer (some ⟨b2, 0, none⟩)), (3, .pointer (some ⟨b1, 0, none⟩)), (0, .pointer (some ⟨b, 0, none⟩))] w38 (by kernel_rfl) ?_
 have S117 := S116.front 5 rfl
 clear S116
 have S118 := S117.front 5 rfl
 clear S117
 refine J.callF 70 68 #[.pointer (some ⟨b, 0, none⟩)] hb68 (by kernel_rfl) (rnumber_any b a p10 c W el ec r12 _ _ _ S118 hp12 hj14 hts) ?_
 rintro _ w39 ⟨p11, r13, hr13, hp13, hj15, rfl, S119⟩
 clear S118
 have S120 := S119.front 5 rfl
 clear S119
 have S121 := S120.front 5 rfl
 clear S120
 have S122 := S121.front 5 rfl
 clear S121
 have S123 : Sep w0 (box b8 [.string t3.gText, iv (nuV W r11), iv 0, .bool false, .bool false, iv 0, iv 0, iv 0, iv 0, iv 0] 57 :: box b3 [iv t1.gKind, .string t1.gText, iv t1.gPlace_Line, iv t1.gPlace_Column] 109 :: box b2 [.slice none 0 0] 24 :: box b1 [.slice ra out.length rc] 24 :: box b [.slice p11 (W.length - r13.j) (c - r13.j), iv el, iv ec, iv r13.pl, iv r13.pc, iv r13.e] 94 :: rowOf tkE a c 109 4 W :: rowOf frmE ra rc 34 5 out :: (L0 ++ tlF out)) w39 := S122.front 5 rfl
 clear S122
 refine J.run 1 K45_46 [(71, .pointer (some ⟨b8, 2, none⟩)), (70, iv (nuV W r12)), (7, .pointer (some ⟨b8, 0, none⟩)), (4, .pointer (some ⟨b2, 0, none⟩)), (3, .pointer (some ⟨b1, 0, none⟩)), (0, .pointer (some ⟨b, 0, none⟩))] w39 (by kernel_rfl) ?_
 refine J.stBox S123 0 3 2 (iv (nuV W r12)) [.string t3.gText, iv (nuV W r11), iv (nuV W r12), .bool false, .bool false, iv 0, iv 0, iv 0, iv 0, iv 0] (box b8 [.string t3.gText, iv (nuV W r11), iv (nuV W r12), .bool false, .bool false, iv 0, iv 0, iv 0, iv 0, iv 0] 57 :: box b3 [iv t1.gKind, .string t1.gText, iv t1.gPlace_Line, iv t1.gPlace_Column] 109 :: box b2 [.slice none 0 0] 24 :: box b1 [.slice ra out.length rc] 24 :: box b [.slice p11 (W.length - r13.j) (c - r13.j), iv el, iv ec, iv r13.pl, iv r13.pc, iv r13.e] 94 :: rowOf tkE a c 109 4 W :: rowOf frmE ra rc 34 5 out :: (L0 ++ tlF out)) (by kernel_rfl) rfl (by kernel_rfl) (by kernel_rfl) rfl ?_
 intro w40 S124
 refine J.run 4 K45_47 [(72, .pointer (some ⟨b, 0, none⟩)), (7, .pointer (some ⟨b8, 0, none⟩)), (4, .pointer (some ⟨b2, 0, none⟩)), (3, .pointer (some ⟨b1, 0, none⟩)), (0, .pointer (some ⟨b, 0, none⟩))] w40 (by kernel_rfl) ?_
 have S125 := S124.front 5 rfl
 clear S124
 have S126 := S125.front 5 rfl
 clear S125
 refine J.callF 73 69 #[.pointer (some ⟨b, 0, none⟩), .string ⟨#[105, 110, 116, 101, 108]⟩, .string ⟨#[109, 111, 116, 111, 114, 111, 108, 97]⟩] hb69 (by kernel_rfl) (reither_any b a p11 c W el ec r13 (⟨#[105, 110, 116, 101, 108]⟩ : ByteArray) (⟨#[109, 111, 116, 111, 114, 111, 108, 97]⟩ : ByteArray) _ _ _ S126 hp13 hj15) ?_
 rintro _ w41 ⟨p12, r14, hr14, hp14, hj16, rfl, S127⟩
 clear S126
 have S128 := S127.front 5 rfl
 clear S127
 have S129 := S128.front 5 rfl
 clear S128
 have S130 := S129.front 5 rfl
 clear S129
 have S131 : Sep w0 (box b8 [.string t3.gText, iv (nuV W r11), iv (nuV W r12), .bool false, .bool false, iv 0, iv 0, iv 0, iv 0, iv 0] 57 :: box b3 [iv t1.gKind, .string t1.gText, iv t1.gPlace_Line, iv t1.gPlace_Column] 109 :: box b2 [.slice none 0 0] 24 :: box b1 [.slice ra out.length rc] 24 :: box b [.slice p12 (W.length - r14.j) (c - r14.j), iv el, iv ec, iv r14.pl, iv r14.pc, iv r14.e] 94 :: rowOf tkE a c 109 4 W :: rowOf frmE ra rc 34 5 out :: (L0 ++ tlF out)) w41 := S130.front 5 rfl
 clear S130
 refine J.run 1 K45_48 [(74, .pointer (some ⟨b8, 3, none⟩)), (73, .bool (eqT (nxT W r13).gText (⟨#[109, 111, 116, 111, 114, 111, 108, 97]⟩ : ByteArray))), (7, .pointer (some ⟨b8, 0, none⟩)), (4, .pointer (some ⟨b2, 0, none⟩)), (3, .pointer (some ⟨b1, 0, none⟩)), (0, .pointer (some ⟨b, 0, none⟩))] w41 (by kernel_rfl) ?_
 refine J.stBox S131 0 4 3 (.bool (eqT (nxT W r13).gText (⟨#[109, 111, 116, 111, 114, 111, 108, 97]⟩ : ByteArray))) [.string t3.gText, iv (nuV W r11), iv (nuV W r12), .bool (eqT (nxT W r13).gText (⟨#[109, 111, 116, 111, 114, 111, 108, 97]⟩ : ByteArray)), .bool false, iv 0, iv 0, iv 0, iv 0, iv 0] (box b8 [.string t3.gText, iv (nuV W r11), iv (nuV W r12), .bool (eqT (nxT W r13).gText (⟨#[109, 111, 116, 111, 114, 111, 108, 97]⟩ : ByteArray)), .bool false, iv 0, iv 0, iv 0, iv 0, iv 0] 57 :: box b3 [iv t1.gKind, .string t1.gText, iv t1.gPlace_Line, iv t1.gPlace_Column] 109 :: box b2 [.slice none 0 0] 24 :: box b1 [.slice ra out.length rc] 24 :: box b [.slice p12 (W.length - r14.j) (c - r14.j), iv el, iv ec, iv r14.pl, iv r14.pc, iv r14.e] 94 :: rowOf tkE a c 109 4 W :: rowOf frmE ra rc 34 5 out :: (L0 ++ tlF out)) (by kernel_rfl) rfl (by kernel_rfl) (by kernel_rfl) rfl ?_
 intro w42 S132
 refine J.run 4 K45_49 [(75, .pointer (some ⟨b, 0, none⟩)), (7, .pointer (some ⟨b8, 0, none⟩)), (4, .pointer (some ⟨b2, 0, none⟩)), (3, .pointer (some ⟨b1, 0, none⟩)), (0, .pointer (some ⟨b, 0, none⟩))] w42 (by kernel_rfl) ?_
 have S133 := S132.front 5 rfl
 clear S132
 have S134 := S133.front 5 rfl
 clear S133
 refine J.callF 76 69 #[.pointer (some ⟨b, 0, none⟩), .string ⟨#[117, 110, 115, 105, 103, 110, 101, 100]⟩, .string ⟨#[115, 105, 103, 110, 101, 100]⟩] hb69 (by kernel_rfl) (reither_any b a p12 c W el ec r14 (⟨#[117, 110, 115, 105, 103, 110, 101, 100]⟩ : ByteArray) (⟨#[115, 105, 103, 110, 101, 100]⟩ : ByteArray) _ _ _ S134 hp14 hj16) ?_
 rintro _ w43 ⟨p13, r15, hr15, hp15, hj17, rfl, S135⟩
 clear S134
 have S136 := S135.front 5 rfl
 clear S135
 have S137 := S136.front 5 rfl
 clear S136
 have S138 := S137.front 5 rfl
 clear S137
 have S139 : Sep w0 (box b8 [.string t3.gText, iv (nuV W r11), iv (nuV W r12), .bool (eqT (nxT W r13).gText (⟨#[109, 111, 116, 111, 114, 111, 108, 97]⟩ : ByteArray)), .bool false, iv 0, iv 0, iv 0, iv 0, iv 0] 57 :: box b3 [iv t1.gKind, .string t1.gText, iv t1.gPlace_Line, iv t1.gPlace_Column] 109 :: box b2 [.slice none 0 0] 24 :: box b1 [.slice ra out.length rc] 24 :: box b [.slice p13 (W.length - r15.j) (c - r15.j), iv el, iv ec, iv r15.pl, iv r15.pc, iv r15.e] 94 :: rowOf tkE a c 109 4 W :: rowOf frmE ra rc 34 5 out :: (L0 ++ tlF out)) w43 := S138.front 5 rfl
 clear S138
 refine J.run 1 K45_50 [(77, .pointer (some ⟨b8, 4, none⟩)), (76, .bool (eqT (nxT W r14).gText (⟨#[115, 105, 103, 110, 101, 100]⟩ : ByteArray))), (7, .pointer (some ⟨b8, 0, none⟩)), (4, .pointer (some ⟨b2, 0, none⟩)), (3, .pointer (some ⟨b1, 0, none⟩)), (0, .pointer (some ⟨b, 0, none⟩))] w43 (by kernel_rfl) ?_
 refine J.stBox S139 0 4 4 (.bool (eqT (nxT W r14).gText (⟨#[115, 105, 103, 110, 101, 100]⟩ : ByteArray))) [.string t3.gText, iv (nuV W r11), iv (nuV W r12), .bool (eqT (nxT W r13).gText (⟨#[109, 111, 116, 111, 114, 111, 108, 97]⟩ : ByteArray)), .bool (eqT (nxT W r14).gText (⟨#[115, 105, 103, 110, 101, 100]⟩ : ByteArray)), iv 0, iv 0, iv 0, iv 0, iv 0] (box b8 [.string t3.gText, iv (nuV W r11), iv (nuV W r12), .bool (eqT (nxT W r13).gText (⟨#[109, 111, 116, 111, 114, 111, 108, 97]⟩ : ByteArray)), .bool (eqT (nxT W r14).gText (⟨#[115, 105, 103, 110, 101, 100]⟩ : ByteArray)), iv 0, iv 0, iv 0, iv 0, iv 0] 57 :: box b3 [iv t1.gKind, .string t1.gText, iv t1.gPlace_Line, iv t1.gPlace_Column] 109 :: box b2 [.slice none 0 0] 24 :: box b1 [.slice ra out.length rc] 24 :: box b [.slice p13 (W.length - r15.j) (c - r15.j), iv el, iv ec, iv r15.pl, iv r15.pc, iv r15.e] 94 :: rowOf tkE a c 109 4 W :: rowOf frmE ra rc 34 5 out :: (L0 ++ tlF out)) (by kernel_rfl) rfl (by kernel_rfl) (by kernel_rfl) rfl ?_
 intro w44 S140
 refine J.run 4 K45_51 [(78, .pointer (some ⟨b, 0, none⟩)), (7, .pointer (some ⟨b8, 0, none⟩)), (4, .pointer (some ⟨b2, 0, none⟩)), (3, .pointer (some ⟨b1, 0, none⟩)), (0, .pointer (some ⟨b, 0, none⟩))] w44 (by kernel_rfl) ?_
 have S141 := S140.front 5 rfl
 clear S140
 have S142 := S141.front 5 rfl
 clear S141
 refine J.callF 79 68 #[.pointer (some ⟨b, 0, none⟩)] hb68 (by kernel_rfl) (rnumber_any b a p13 c W el ec r15 _ _ _ S142 hp15 hj17 hts) ?_
 rintro _ w45 ⟨p14, r16, hr16, hp16, hj18, rfl, S143⟩
 clear S142
 have S144 := S143.front 5 rfl
 clear S143
 have S145 := S144.front 5 rfl
 clear S144
 have S146 := S145.front 5 rfl
 clear S145
 have S147 : Sep w0 (box b8 [.string t3.gText, iv (nuV W r11), iv (nuV W r12), .bool (eqT (nxT W r13).gText (⟨#[109, 111, 116, 111, 114, 111, 108, 97]⟩ : ByteArray)), .bool (eqT (nxT W r14).gText (⟨#[115, 105, 103, 110, 101, 100]⟩ : ByteArray)), iv 0, iv 0, iv 0, iv 0, iv 0] 57 :: box b3 [iv t1.gKind, .string t1.gText, iv t1.gPlace_Line, iv t1.gPlace_Column] 109 :: box b2 [.slice none 0 0] 24 :: box b1 [.slice ra out.length rc] 24 :: box b [.slice p14 (W.length - r16.j) (c - r16.j), iv el, iv ec, iv r16.pl, iv r16.pc, iv r16.e] 94 :: rowOf tkE a c 109 4 W :: rowOf frmE ra rc 34 5 out :: (L0 ++ tlF out)) w45 := S146.front 5 rfl
 clear S146
 refine J.run 1 K45_52 [(80, .pointer (some ⟨b8, 5, none⟩)), (79, iv (nuV W r15)), (7, .pointer (some ⟨b8, 0, none⟩)), (4, .pointer (some ⟨b2, 0, none⟩)), (3, .pointer (some ⟨b1, 0, none⟩)), (0, .pointer (some ⟨b, 0, none⟩))] w45 (by kernel_rfl) ?_
 refine J.stBox S147 0 3 5 (iv (nuV W r15)) [.string t3.gText, iv (nuV W r11), iv (nuV W r12), .bool (eqT (nxT W r13).gText (⟨#[109, 111, 116, 111, 114, 111, 108, 97]⟩ : ByteArray)), .bool (eqT (nxT W r14).gText (⟨#[115, 105, 103, 110, 101, 100]⟩ : ByteArray)), iv (nuV W r15), iv 0, iv 0, iv 0, iv 0] (box b8 [.string t3.gText, iv (nuV W r11), iv (nuV W r12), .bool (eqT (nxT W r13).gText (⟨#[109, 111, 116, 111, 114, 111, 108, 97]⟩ : ByteArray)), .bool (eqT (nxT W r14).gText (⟨#[115, 105, 103, 110, 101, 100]⟩ : ByteArray)), iv (nuV W r15), iv 0, iv 0, iv 0, iv 0] 57 :: box b3 [iv t1.gKind, .string t1.gText, iv t1.gPlace_Line, iv t1.gPlace_Column] 109 :: box b2 [.slice none 0 0] 24 :: box b1 [.slice ra out.length rc] 24 :: box b [.slice p14 (W.length - r16.j) (c - r16.j), iv el, iv ec, iv r16.pl, iv r16.pc, iv r16.e] 94 :: rowOf tkE a c 109 4 W :: rowOf frmE ra rc 34 5 out :: (L0 ++ tlF out)) (by kernel_rfl) rfl (by kernel_rfl) (by kernel_rfl) rfl ?_
 intro w46 S148
 refine J.run 4 K45_53 [(81, .pointer (some ⟨b, 0, none⟩)), (7, .pointer (some ⟨b8, 0, none⟩)), (4, .pointer (some ⟨b2, 0, none⟩)), (3, .pointer (some ⟨b1, 0, none⟩)), (0, .pointer (some ⟨b, 0, none⟩))] w46 (by kernel_rfl) ?_
 have S149 := S148.front 5 rfl
 clear S148
 have S150 := S149.front 5 rfl
 clear S149
 refine J.callF 82 68 #[.pointer (some ⟨b, 0, none⟩)] hb68 (by kernel_rfl) (rnumber_any b a p14 c W el ec r16 _ _ _ S150 hp16 hj18 hts) ?_
 rintro _ w47 ⟨p15, r17, hr17, hp17, hj19, rfl, S151⟩
 clear S150
 have S152 := S151.front 5 rfl
 clear S151
 have S153 := S152.front 5 rfl
 clear S152
 have S154 := S153.front 5 rfl
 clear S153
 have S155 : Sep w0 (box b8 [.string t3.gText, iv (nuV W r11), iv (nuV W r12), .bool (eqT (nxT W r13).gText (⟨#[109, 111, 116, 111, 114, 111, 108, 97]⟩ : ByteArray)), .bool (eqT (nxT W r14).gText (⟨#[115, 105, 103, 110, 101, 100]⟩ : ByteArray)), iv (nuV W r15), iv 0, iv 0, iv 0, iv 0] 57 :: box b3 [iv t1.gKind, .string t1.gText, iv t1.gPlace_Line, iv t1.gPlace_Column] 109 :: box b2 [.slice none 0 0] 24 :: box b1 [.slice ra out.length rc] 24 :: box b [.slice p15 (W.length - r17.j) (c - r17.j), iv el, iv ec, iv r17.pl, iv r17.pc, iv r17.e] 94 :: rowOf tkE a c 109 4 W :: rowOf frmE ra rc 34 5 out :: (L0 ++ tlF out)) w47 := S154.front 5 rfl
 clear S154
 refine J.run 1 K45_54 [(83, .pointer (some ⟨b8, 6, none⟩)), (82, iv (nuV W r16)), (7, .pointer (some ⟨b8, 0, none⟩)), (4, .pointer (some ⟨b2, 0, none⟩)), (3, .pointer (some ⟨b1, 0, none⟩)), (0, .pointer (some ⟨b, 0, none⟩))] w47 (by kernel_rfl) ?_
 refine J.stBox S155 0 3 6 (iv (nuV W r16)) [.string t3.gText, iv (nuV W r11), iv (nuV W r12), .bool (eqT (nxT W r13).gText (⟨#[109, 111, 116, 111, 114, 111, 108, 97]⟩ : ByteArray)), .bool (eqT (nxT W r14).gText (⟨#[115, 105, 103, 110, 101, 100]⟩ : ByteArray)), iv (nuV W r15), iv (nuV W r16), iv 0, iv 0, iv 0] (box b8 [.string t3.gText, iv (nuV W r11), iv (nuV W r12), .bool (eqT (nxT W r13).gText (⟨#[109, 111, 116, 111, 114, 111, 108, 97]⟩ : ByteArray)), .bool (eqT (nxT W r14).gText (⟨#[115, 105, 103, 110, 101, 100]⟩ : ByteArray)), iv (nuV W r15), iv (nuV W r16), iv 0, iv 0, iv 0] 57 :: box b3 [iv t1.gKind, .string t1.gText, iv t1.gPlace_Line, iv t1.gPlace_Column] 109 :: box b2 [.slice none 0 0] 24 :: box b1 [.slice ra out.length rc] 24 :: box b [.slice p15 (W.length - r17.j) (c - r17.j), iv el, iv ec, iv r17.pl, iv r17.pc, iv r17.e] 94 :: rowOf tkE a c 109 4 W :: rowOf frmE ra rc 34 5 out :: (L0 ++ tlF out)) (by kernel_rfl) rfl (by kernel_rfl) (by kernel_rfl) rfl ?_
 intro w48 S156
 refine J.run 4 K45_55 [(84, .pointer (some ⟨b, 0, none⟩)), (7, .pointer (some ⟨b8, 0, none⟩)), (4, .pointer (some ⟨b2, 0, none⟩)), (3, .pointer (some ⟨b1, 0, none⟩)), (0, .pointer (some ⟨b, 0, none⟩))] w48 (by kernel_rfl) ?_
 have S157 := S156.front 5 rfl
 clear S156
 have S158 := S157.front 5 rfl
 clear S157
 refine J.callF 85 68 #[.pointer (some ⟨b, 0, none⟩)] hb68 (by kernel_rfl) (rnumber_any b a p15 c W el ec r17 _ _ _ S158 hp17 hj19 hts) ?_
 rintro _ w49 ⟨p16, r18, hr18, hp18, hj20, rfl, S159⟩
 clear S158
 have S160 := S159.front 5 rfl
 clear S159
 have S161 := S160.front 5 rfl
 clear S160
 have S162 := S161.front 5 rfl
 clear S161
 have S163 : Sep w0 (box b8 [.string t3.gText, iv (nuV W r11), iv (nuV W r12), .bool (eqT (nxT W r13).gText (⟨#[109, 111, 116, 111, 114, 111, 108, 97]⟩ : ByteArray)), .bool (eqT (nxT W r14).gText (⟨#[115, 105, 103, 110, 101, 100]⟩ : ByteArray)), iv (nuV W r15), iv (nuV W r16), iv 0, iv 0, iv 0] 57 :: box b3 [iv t1.gKind, .string t1.gText, iv t1.gPlace_Line, iv t1.gPlace_Column] 109 :: box b2 [.slice none 0 0] 24 :: box b1 [.slice ra out.length rc] 24 :: box b [.slice p16 (W.length - r18.j) (c - r18.j), iv el, iv ec, iv r18.pl, iv r18.pc, iv r18.e] 94 :: rowOf tkE a c 109 4 W :: rowOf frmE ra rc 34 5 out :: (L0 ++ tlF out)) w49 := S162.front 5 rfl
 clear S162
 refine J.run 1 K45_56 [(86, .pointer (some ⟨b8, 7, none⟩)), (85, iv (nuV W r17)), (7, .pointer (some ⟨b8, 0, none⟩)), (4, .pointer (some ⟨b2, 0, none⟩)), (3, .pointer (some ⟨b1, 0, none⟩)), (0, .pointer (some ⟨b, 0, none⟩))] w49 (by kernel_rfl) ?_
 refine J.stBox S163 0 3 7 (iv (nuV W r17)) [.string t3.gText, iv (nuV W r11), iv (nuV W r12), .bool (eqT (nxT W r13).gText (⟨#[109, 111, 116, 111, 114, 111, 108, 97]⟩ : ByteArray)), .bool (eqT (nxT W r14).gText (⟨#[115, 105, 103, 110, 101, 100]⟩ : ByteArray)), iv (nuV W r15), iv (nuV W r16), iv (nuV W r17), iv 0, iv 0] (box b8 [.string t3.gText, iv (nuV W r11), iv (nuV W r12), .bool (eqT (nxT W r13).gText (⟨#[109, 111, 116, 111, 114, 111, 108, 97]⟩ : ByteArray)), .bool (eqT (nxT W r14).gText (⟨#[115, 105, 103, 110, 101, 100]⟩ : ByteArray)), iv (nuV W r15), iv (nuV W r16), iv (nuV W r17), iv 0, iv 0] 57 :: box b3 [iv t1.gKind, .string t1.gText, iv t1.gPlace_Line, iv t1.gPlace_Column] 109 :: box b2 [.slice none 0 0] 24 :: box b1 [.slice ra out.length rc] 24 :: box b [.slice p16 (W.length - r18.j) (c - r18.j), iv el, iv ec, iv r18.pl, iv r18.pc, iv r18.e] 94 :: rowOf tkE a c 109 4 W :: rowOf frmE ra rc 34 5 out :: (L0 ++ tlF out)) (by kernel_rfl) rfl (by kernel_rfl) (by kernel_rfl) rfl ?_
 intro w50 S164
 refine J.run 4 K45_57 [(87, .pointer (some ⟨b, 0, none⟩)), (7, .pointer (some ⟨b8, 0, none⟩)), (4, .pointer (some ⟨b2, 0, none⟩)), (3, .pointer (some ⟨b1, 0, none⟩)), (0, .pointer (some ⟨b, 0, none⟩))] w50 (by kernel_rfl) ?_
 have S165 := S164.front 5 rfl
 clear S164
 have S166 := S165.front 5 rfl
 clear S165
 refine J.callF 88 68 #[.pointer (some ⟨b, 0, none⟩)] hb68 (by kernel_rfl) (rnumber_any b a p16 c W el ec r18 _ _ _ S166 hp18 hj20 hts) ?_
 rintro _ w51 ⟨p17, r19, hr19, hp19, hj21, rfl, S167⟩
 clear S166
 have S168 := S167.front 5 rfl
 clear S167
 have S169 := S168.front 5 rfl
 clear S168
 have S170 := S169.front 5 rfl
 clear S169
 have S171 : Sep w0 (box b8 [.string t3.gText, iv (nuV W r11), iv (nuV W r12), .bool (eqT (nxT W r13).gText (⟨#[109, 111, 116, 111, 114, 111, 108, 97]⟩ : ByteArray)), .bool (eqT (nxT W r14).gText (⟨#[115, 105, 103, 110, 101, 100]⟩ : ByteArray)), iv (nuV W r15), iv (nuV W r16), iv (nuV W r17), iv 0, iv 0] 57 :: box b3 [iv t1.gKind, .string t1.gText, iv t1.gPlace_Line, iv t1.gPlace_Column] 109 :: box b2 [.slice none 0 0] 24 :: box b1 [.slice ra out.length rc] 24 :: box b [.slice p17 (W.length - r19.j) (c - r19.j), iv el, iv ec, iv r19.pl, iv r19.pc, iv r19.e] 94 :: rowOf tkE a c 109 4 W :: rowOf frmE ra rc 34 5 out :: (L0 ++ tlF out)) w51 := S170.front 5 rfl
 clear S170
 refine J.run 1 K45_58 [(89, .pointer (some ⟨b8, 8, none⟩)), (88, iv (nuV W r18)), (7, .pointer (some ⟨b8, 0, none⟩)), (4, .pointer (some ⟨b2, 0, none⟩)), (3, .pointer (some ⟨b1, 0, none⟩)), (0, .pointer (some ⟨b, 0, none⟩))] w51 (by kernel_rfl) ?_
 refine J.stBox S171 0 3 8 (iv (nuV W r18)) [.string t3.gText, iv (nuV W r11), iv (nuV W r12), .bool (eqT (nxT W r13).gText (⟨#[109, 111, 116, 111, 114, 111, 108, 97]⟩ : ByteArray)), .bool (eqT (nxT W r14).gText (⟨#[115, 105, 103, 110, 101, 100]⟩ : ByteArray)), iv (nuV W r15), iv (nuV W r16), iv (nuV W r17), iv (nuV W r18), iv 0] (box b8 [.string t3.gText, iv (nuV W r11), iv (nuV W r12), .bool (eqT (nxT W r13).gText (⟨#[109, 111, 116, 111, 114, 111, 108, 97]⟩ : ByteArray)), .bool (eqT (nxT W r14).gText (⟨#[115, 105, 103, 110, 101, 100]⟩ : ByteArray)), iv (nuV W r15), iv (nuV W r16), iv (nuV W r17), iv (nuV W r18), iv 0] 57 :: box b3 [iv t1.gKind, .string t1.gText, iv t1.gPlace_Line, iv t1.gPlace_Column] 109 :: box b2 [.slice none 0 0] 24 :: box b1 [.slice ra out.length rc] 24 :: box b [.slice p17 (W.length - r19.j) (c - r19.j), iv el, iv ec, iv r19.pl, iv r19.pc, iv r19.e] 94 :: rowOf tkE a c 109 4 W :: rowOf frmE ra rc 34 5 out :: (L0 ++ tlF out)) (by kernel_rfl) rfl (by kernel_rfl) (by kernel_rfl) rfl ?_
 intro w52 S172
 refine J.run 4 K45_59 [(90, .pointer (some ⟨b, 0, none⟩)), (7, .pointer (some ⟨b8, 0, none⟩)), (4, .pointer (some ⟨b2, 0, none⟩)), (3, .pointer (some ⟨b1, 0, none⟩)), (0, .pointer (some ⟨b, 0, none⟩))] w52 (by kernel_rfl) ?_
 have S173 := S172.front 5 rfl
 clear S172
 have S174 := S173.front 5 rfl
 clear S173
 refine J.callF 91 68 #[.pointer (some ⟨b, 0, none⟩)] hb68 (by kernel_rfl) (rnumber_any b a p17 c W el ec r19 _ _ _ S174 hp19 hj21 hts) ?_
 rintro _ w53 ⟨p18, r20, hr20, hp20, hj22, rfl, S175⟩
 clear S174
 have S176 := S175.front 5 rfl
 clear S175
 have S177 := S176.front 5 rfl
 clear S176
 have S178 := S177.front 5 rfl
 clear S177
 have S179 : Sep w0 (box b8 [.string t3.gText, iv (nuV W r11), iv (nuV W r12), .bool (eqT (nxT W r13).gText (⟨#[109, 111, 116, 111, 114, 111, 108, 97]⟩ : ByteArray)), .bool (eqT (nxT W r14).gText (⟨#[115, 105, 103, 110, 101, 100]⟩ : ByteArray)), iv (nuV W r15), iv (nuV W r16), iv (nuV W r17), iv (nuV W r18), iv 0] 57 :: box b3 [iv t1.gKind, .string t1.gText, iv t1.gPlace_Line, iv t1.gPlace_Column] 109 :: box b2 [.slice none 0 0] 24 :: box b1 [.slice ra out.length rc] 24 :: box b [.slice p18 (W.length - r20.j) (c - r20.j), iv el, iv ec, iv r20.pl, iv r20.pc, iv r20.e] 94 :: rowOf tkE a c 109 4 W :: rowOf frmE ra rc 34 5 out :: (L0 ++ tlF out)) w53 := S178.front 5 rfl
 clear S178
 refine J.run 1 K45_60 [(92, .pointer (some ⟨b8, 9, none⟩)), (91, iv (nuV W r19)), (7, .pointer (some ⟨b8, 0, none⟩)), (4, .pointer (some ⟨b2, 0, none⟩)), (3, .pointer (some ⟨b1, 0, none⟩)), (0, .pointer (some ⟨b, 0, none⟩))] w53 (by kernel_rfl) ?_
 refine J.stBox S179 0 3 9 (iv (nuV W r19)) [.string t3.gText, iv (nuV W r11), iv (nuV W r12), .bool (eqT (nxT W r13).gText (⟨#[109, 111, 116, 111, 114, 111, 108, 97]⟩ : ByteArray)), .bool (eqT (nxT W r14).gText (⟨#[115, 105, 103, 110, 101, 100]⟩ : ByteArray)), iv (nuV W r15), iv (nuV W r16), iv (nuV W r17), iv (nuV W r18), iv (nuV W r19)] (box b8 [.string t3.gText, iv (nuV W r11), iv (nuV W r12), .bool (eqT (nxT W r13).gText (⟨#[109, 111, 116, 111, 114, 111, 108, 97]⟩ : ByteArray)), .bool (eqT (nxT W r14).gText (⟨#[115, 105, 103, 110, 101, 100]⟩ : ByteArray)), iv (nuV W r15), iv (nuV W r16), iv (nuV W r17), iv (nuV W r18), iv (nuV W r19)] 57 :: box b3 [iv t1.gKind, .string t1.gText, iv t1.gPlace_Line, iv t1.gPlace_Column] 109 :: box b2 [.slice none 0 0] 24 :: box b1 [.slice ra out.length rc] 24 :: box b [.slice p18 (W.length - r20.j) (c - r20.j), iv el, iv ec, iv r20.pl, iv r20.pc, iv r20.e] 94 :: rowOf tkE a c 109 4 W :: rowOf frmE ra rc 34 5 out :: (L0 ++ tlF out)) (by kernel_rfl) rfl (by kernel_rfl) (by kernel_rfl) rfl ?_
 intro w54 S180
 refine J.run 4 K45_61 [(93, .pointer (some ⟨b, 0, none⟩)), (7, .pointer (some ⟨b8, 0, none⟩)), (4, .pointer (some ⟨b2, 0, none⟩)), (3, .pointer (some ⟨b1, 0, none⟩))] w54 (by kernel_rfl) ?_
 have S181 := S180.front 5 rfl
 clear S180
 have S182 := S181.front 5 rfl
 clear S181
 refine J.callF 94 70 #[.pointer (some ⟨b, 0, none⟩)] hb70 (by kernel_rfl) (rend_any b a p18 c W el ec r20 _ _ _ S182 hp20 hj22) ?_
 rintro _ w55 ⟨p19, r21, hr21, hp21, hj23, rfl, S183⟩
 clear S182
 have S184 := S183.front 5 rfl
 clear S183
 have S185 := S184.front 5 rfl
 clear S184
 have S186 := S185.front 5 rfl
 clear S185
 have S187 : Sep w0 (box b8 [.string t3.gText, iv (nuV W r11), iv (nuV W r12), .bool (eqT (nxT W r13).gText (⟨#[109, 111, 116, 111, 114, 111, 108, 97]⟩ : ByteArray)), .bool (eqT (nxT W r14).gText (⟨#[115, 105, 103, 110, 101, 100]⟩ : ByteArray)), iv (nuV W r15), iv (nuV W r16), iv (nuV W r17), iv (nuV W r18), iv (nuV W r19)] 57 :: box b3 [iv t1.gKind, .string t1.gText, iv t1.gPlace_Line, iv t1.gPlace_Column] 109 :: box b2 [.slice none 0 0] 24 :: box b1 [.slice ra out.length rc] 24 :: box b [.slice p19 (W.length - r21.j) (c - r21.j), iv el, iv ec, iv r21.pl, iv r21.pc, iv r21.e] 94 :: rowOf tkE a c 109 4 W :: rowOf frmE ra rc 34 5 out :: (L0 ++ tlF out)) w55 := S186.front 5 rfl
 clear S186
 refine J.run 4 K45_62 [(95, .pointer (some ⟨b1, 0, none⟩)), (7, .pointer (some ⟨b8, 0, none⟩)), (4, .pointer (some ⟨b2, 0, none⟩)), (3, .pointer (some ⟨b1, 0, none⟩))] w55 (by kernel_rfl) ?_
 refine J.ok (OK.ldBox S187 3 96 22 0 (.slice ra out.length rc) (by kernel_rfl) rfl (by kernel_rfl)) ?_
 refine J.run 2 K45_63 [(98, iv (IntKind.wrap .i64 ((out.length : Int) - 1))), (7, .pointer (some ⟨b8, 0, none⟩)), (4, .pointer (some ⟨b2, 0, none⟩)), (3, .pointer (some ⟨b1, 0, none⟩))] w55 (by kernel_rfl) ?_
 refine J.head (iv ((out.length : Int) - 1)) (congrArg (Value.int .i64) (IntWalk.i64_in _ (by omega))) ?_
 refine J.run 3 K45_64 [(8, iv ((out.length : Int) - 1)), (7, .pointer (some ⟨b8, 0, none⟩)), (4, .pointer (some ⟨b2, 0, none⟩)), (3, .pointer (some ⟨b1, 0, none⟩))] w55 (by kernel_rfl) ?_
 have S188 : Sep w0 (box b8 [.string t3.gText, iv (nuV W r11), iv (nuV W r12), .bool (eqT (nxT W r13).gText (⟨#[109, 111, 116, 111, 114, 111, 108, 97]⟩ : ByteArray)), .bool (eqT (nxT W r14).gText (⟨#[115, 105, 103, 110, 101, 100]⟩ : ByteArray)), iv (nuV W r15), iv (nuV W r16), iv (nuV W r17), iv (nuV W r18), iv (nuV W r19)] 57 :: box b3 [iv t1.gKind, .string t1.gText, iv t1.gPlace_Line, iv t1.gPlace_Column] 109 :: box b2 [.slice none 0 0] 24 :: box b1 [.slice ra out.length rc] 24 :: box b [.slice p19 (W.length - r21.j) (c - r21.j), iv el, iv ec, iv r21.pl, iv r21.pc, iv r21.e] 94 :: rowOf tkE a c 109 4 W :: rowOf frmE ra rc 34 5 out :: rowOf sigE ((out.getD ((out.length : Int) - 1).toNat frm0).gSignals_a) ((out.getD ((out.length : Int) - 1).toNat frm0).gSignals_c) 57 10 ((out.getD ((out.length : Int) - 1).toNat frm0).gSignals_l) :: (L0 ++ tlF out.dropLast)) w55 := tk_last [box b8 [.string t3.gText, iv (nuV W r11), iv (nuV W r12), .bool (eqT (nxT W r13).gText (⟨#[109, 111, 116, 111, 114, 111, 108, 97]⟩ : ByteArray)), .bool (eqT (nxT W r14).gText (⟨#[115, 105, 103, 110, 101, 100]⟩ : ByteArray)), iv (nuV W r15), iv (nuV W r16), iv (nuV W r17), iv (nuV W r18), iv (nuV W r19)] 57, box b3 [iv t1.gKind, .string t1.gText, iv t1.gPlace_Line, iv t1.gPlace_Column] 109, box b2 [.slice none 0 0] 24, box b1 [.slice ra out.length rc] 24, box b [.slice p19 (W.length - r21.j) (c - r21.j), iv el, iv ec, iv r21.pl, iv r21.pc, iv r21.e] 94, rowOf tkE a c 109 4 W, rowOf frmE ra rc 34 5 out] (show out.length ≠ 0 by omega) S187
 obtain ⟨p20, hp22, hc1⟩ := (rowOf_recs (S188.nth 6 rfl) _ rfl (fun _ => rfl) (by decide)).at frm0 ((out.length : Int) - 1).toNat (by omega)
 have hln := (all_last hof (show out.length ≠ 0 by omega)).1
 have hlb := all_last hsl (show out.length ≠ 0 by omega)
 have W1 : ∀ (ad11 : Option Addr) (cd11 : Nat) (w56 : World), Sep w0 (box b8 [.string t3.gText, iv (nuV W r11), iv (nuV W r12), .bool (eqT (nxT W r13).gText (⟨#[109, 111, 116, 111, 114, 111, 108, 97]⟩ : ByteArray)), .bool (eqT (nxT W r14).gText (⟨#[115, 105, 103, 110, 101, 100]⟩ : ByteArray)), iv (nuV W r15), iv (nuV W r16), iv (nuV W r17), iv (nuV W r18), iv (nuV W r19)] 57 :: box b3 [iv t1.gKind, .string t1.gText, iv t1.gPlace_Line, iv t1.gPlace_Column] 109 :: box b2 [.slice none 0 0] 24 :: box b1 [.slice ra out.length rc] 24 :: box b [.slice p19 (W.length - r21.j) (c - r21.j), iv el, iv ec, iv r21.pl, iv r21.pc, iv r21.e] 94 :: rowOf tkE a c 109 4 W :: rowOf frmE ra rc 34 5 (out.set (((out.length : Int) - 1).toNat) ({ (out.getD (((out.length : Int) - 1).toNat) frm0) with gSignals_a := ad11, gSignals_n := (((out.getD ((out.length : Int) - 1).toNat frm0).gSignals_l) ++ [(⟨t3.gText, nuV W r11, nuV W r12, (eqT (nxT W r13).gText (⟨#[109, 111, 116, 111, 114, 111, 108, 97]⟩ : ByteArray)), (eqT (nxT W r14).gText (⟨#[115, 105, 103, 110, 101, 100]⟩ : ByteArray)), nuV W r15, nuV W r16, nuV W r17, nuV W r18, nuV W r19⟩ : Sig)]).length, gSignals_c := cd11, gSignals_l := ((out.getD ((out.length : Int) - 1).toNat frm0).gSignals_l) ++ [(⟨t3.gText, nuV W r11, nuV W r12, (eqT (nxT W r13).gText (⟨#[109, 111, 116, 111, 114, 111, 108, 97]⟩ : ByteArray)), (eqT (nxT W r14).gText (⟨#[115, 105, 103, 110, 101, 100]⟩ : ByteArray)), nuV W r15, nuV W r16, nuV W r17, nuV W r18, nuV W r19⟩ : Sig)] } : Frm)) :: (L0 ++ tlF (out.set (((out.length : Int) - 1).toNat) ({ (out.getD (((out.length : Int) - 1).toNat) frm0) with gSignals_a := ad11, gSignals_n := (((out.getD ((out.length : Int) - 1).toNat frm0).gSignals_l) ++ [(⟨t3.gText, nuV W r11, nuV W r12, (eqT (nxT W r13).gText (⟨#[109, 111, 116, 111, 114, 111, 108, 97]⟩ : ByteArray)), (eqT (nxT W r14).gText (⟨#[115, 105, 103, 110, 101, 100]⟩ : ByteArray)), nuV W r15, nuV W r16, nuV W r17, nuV W r18, nuV W r19⟩ : Sig)]).length, gSignals_c := cd11, gSignals_l := ((out.getD ((out.length : Int) - 1).toNat frm0).gSignals_l) ++ [(⟨t3.gText, nuV W r11, nuV W r12, (eqT (nxT W r13).gText (⟨#[109, 111, 116, 111, 114, 111, 108, 97]⟩ : ByteArray)), (eqT (nxT W r14).gText (⟨#[115, 105, 103, 110, 101, 100]⟩ : ByteArray)), nuV W r15, nuV W r16, nuV W r17, nuV W r18, nuV W r19⟩ : Sig)] } : Frm)))) w56 → WA Tryd.prog 45 114 R K45_64 (fun w_ => Sep w0 [box b8 [.string t3.gText, iv (nuV W r11), iv (nuV W r12), .bool (eqT (nxT W r13).gText (⟨#[109, 111, 116, 111, 114, 111, 108, 97]⟩ : ByteArray)), .bool (eqT (nxT W r14).gText (⟨#[115, 105, 103, 110, 101, 100]⟩ : ByteArray)), iv (nuV W r15), iv (nuV W r16), iv (nuV W r17), iv (nuV W r18), iv (nuV W r19)] 57, box b3 [iv t1.gKind, .string t1.gText, iv t1.gPlace_Line, iv t1.gPlace_Column] 109, box b2 [.slice none 0 0] 24, box b1 [.slice ra out.length rc] 24, box b [.slice p19 (W.length - r21.j) (c - r21.j), iv el, iv ec, iv r21.pl, iv r21.pc, iv r21.e] 94, rowOf tkE a c 109 4 W] w_) 0 #[true, true, true, true, true, true, true, true, true, true, true, true, true, true, true] [(3, .pointer (some ⟨b1, 0, none⟩)), (4, .pointer (some ⟨b2, 0, none⟩))] w56 := by
  intro ad11 cd11 w56 S189
  refine WA.done (by kernel_rfl) ?_
  refine J.run 0 (rRest K45_64) [(3, .pointer (some ⟨b1, 0, none⟩)), (4, .pointer (some ⟨b2, 0, none⟩))] w56 (by kernel_rfl) ?_
  refine J.run 2 K45_65 [(3, .pointer (some ⟨b1, 0, none⟩)), (4, .pointer (some ⟨b2, 0, none⟩))] w56 (by kernel_rfl) ?_
  refine J.ok (OK.ldBox S189 3 113 24 0 (.agg #[.slice ra out.length rc]) (by kernel_rfl) rfl (by kernel_rfl)) ?_
  refine J.stBox S189 2 24 0 (.agg #[.slice ra out.length rc]) [.slice ra out.length rc] (box b8 [.string t3.gText, iv (nuV W r11), iv (nuV W r12), .bool (eqT (nxT W r13).gText (⟨#[109, 111, 116, 111, 114, 111, 108, 97]⟩ : ByteArray)), .bool (eqT (nxT W r14).gText (⟨#[115, 105, 103, 110, 101, 100]⟩ : ByteArray)), iv (nuV W r15), iv (nuV W r16), iv (nuV W r17), iv (nuV W r18), iv (nuV W r19)] 57 :: box b3 [iv t1.gKind, .string t1.gText, iv t1.gPlace_Line, iv t1.gPlace_Column] 109 :: box b2 [.slice ra out.length rc] 24 :: box b1 [.slice ra out.length rc] 24 :: box b [.slice p19 (W.length - r21.j) (c - r21.j), iv el, iv ec, iv r21.pl, iv r21.pc, iv r21.e] 94 :: rowOf tkE a c 109 4 W :: rowOf frmE ra rc 34 5 (out.set (((out.length : Int) - 1).toNat) ({ (out.getD (((out.length : Int) - 1).toNat) frm0) with gSignals_a := ad11, gSignals_n := (((out.getD ((out.length : Int) - 1).toNat frm0).gSignals_l) ++ [(⟨t3.gText, nuV W r11, nuV W r12, (eqT (nxT W r13).gText (⟨#[109, 111, 116, 111, 114, 111, 108, 97]⟩ : ByteArray)), (eqT (nxT W r14).gText (⟨#[115, 105, 103, 110, 101, 100]⟩ : ByteArray)), nuV W r15, nuV W r16, nuV W r17, nuV W r18, nuV W r19⟩ : Sig)]).length, gSignals_c := cd11, gSignals_l := ((out.getD ((out.length : Int) - 1).toNat frm0).gSignals_l) ++ [(⟨t3.gText, nuV W r11, nuV W r12, (eqT (nxT W r13).gText (⟨#[109, 111, 116, 111, 114, 111, 108, 97]⟩ : ByteArray)), (eqT (nxT W r14).gText (⟨#[115, 105, 103, 110, 101, 100]⟩ : ByteArray)), nuV W r15, nuV W r16, nuV W r17, nuV W r18, nuV W r19⟩ : Sig)] } : Frm)) :: (L0 ++ tlF (out.set (((out.length : Int) - 1).toNat) ({ (out.getD (((out.length : Int) - 1).toNat) frm0) with gSignals_a := ad11, gSignals_n := (((out.getD ((out.length : Int) - 1).toNat frm0).gSignals_l) ++ [(⟨t3.gText, nuV W r11, nuV W r12, (eqT (nxT W r13).gText (⟨#[109, 111, 116, 111, 114, 111, 108, 97]⟩ : ByteArray)), (eqT (nxT W r14).gText (⟨#[115, 105, 103, 110, 101, 100]⟩ : ByteArray)), nuV W r15, nuV W r16, nuV W r17, nuV W r18, nuV W r19⟩ : Sig)]).length, gSignals_c := cd11, gSignals_l := ((out.getD ((out.length : Int) - 1).toNat frm0).gSignals_l) ++ [(⟨t3.gText, nuV W r11, nuV W r12, (eqT (nxT W r13).gText (⟨#[109, 111, 116, 111, 114, 111, 108, 97]⟩ : ByteArray)), (eqT (nxT W r14).gText (⟨#[115, 105, 103, 110, 101, 100]⟩ : ByteArray)), nuV W r15, nuV W r16, nuV W r17, nuV W r18, nuV W r19⟩ : Sig)] } : Frm)))) (by kernel_rfl) rfl (by kernel_rfl) (by kernel_rfl) rfl ?_
  intro w57 S190
  refine J.run 1 K45_66 [(4, .pointer (some ⟨b2, 0, none⟩))] w57 (by kernel_rfl) ?_
  refine J.ret Tryd.f45 [.agg #[.slice ra out.length rc]] Tryd.func45 ⟨⟨⟨b2, 0, none⟩, by kernel_rfl, ldV_run (S190.nth 2 rfl) (by kernel_rfl)⟩, trivial⟩ ?_
  refine hR _ _ ?_
  have S191 : Sep w0 (box b [.slice p19 (W.length - r21.j) (c - r21.j), iv el, iv ec, iv r21.pl, iv r21.pc, iv r21.e] 94 :: rowOf tkE a c 109 4 W :: rowOf frmE ra rc 34 5 (out.set (((out.length : Int) - 1).toNat) ({ (out.getD (((out.length : Int) - 1).toNat) frm0) with gSignals_a := ad11, gSignals_n := (((out.getD ((out.length : Int) - 1).toNat frm0).gSignals_l) ++ [(⟨t3.gText, nuV W r11, nuV W r12, (eqT (nxT W r13).gText (⟨#[109, 111, 116, 111, 114, 111, 108, 97]⟩ : ByteArray)), (eqT (nxT W r14).gText (⟨#[115, 105, 103, 110, 101, 100]⟩ : ByteArray)), nuV W r15, nuV W r16, nuV W r17, nuV W r18, nuV W r19⟩ : Sig)]).length, gSignals_c := cd11, gSignals_l := ((out.getD ((out.length : Int) - 1).toNat frm0).gSignals_l) ++ [(⟨t3.gText, nuV W r11, nuV W r12, (eqT (nxT W r13).gText (⟨#[109, 111, 116, 111, 114, 111, 108, 97]⟩ : ByteArray)), (eqT (nxT W r14).gText (⟨#[115, 105, 103, 110, 101, 100]⟩ : ByteArray)), nuV W r15, nuV W r16, nuV W r17, nuV W r18, nuV W r19⟩ : Sig)] } : Frm)) :: (L0 ++ tlF (out.set (((out.length : Int) - 1).toNat) ({ (out.getD (((out.length : Int) - 1).toNat) frm0) with gSignals_a := ad11, gSignals_n := (((out.getD ((out.length : Int) - 1).toNat frm0).gSignals_l) ++ [(⟨t3.gText, nuV W r11, nuV W r12, (eqT (nxT W r13).gText (⟨#[109, 111, 116, 111, 114, 111, 108, 97]⟩ : ByteArray)), (eqT (nxT W r14).gText (⟨#[115, 105, 103, 110, 101, 100]⟩ : ByteArray)), nuV W r15, nuV W r16, nuV W r17, nuV W r18, nuV W r19⟩ : Sig)]).length, gSignals_c := cd11, gSignals_l := ((out.getD ((out.length : Int) - 1).toNat frm0).gSignals_l) ++ [(⟨t3.gText, nuV W r11, nuV W r12, (eqT (nxT W r13).gText (⟨#[109, 111, 116, 111, 114, 111, 108, 97]⟩ : ByteArray)), (eqT (nxT W r14).gText (⟨#[115, 105, 103, 110, 101, 100]⟩ : ByteArray)), nuV W r15, nuV W r16, nuV W r17, nuV W r18, nuV W r19⟩ : Sig)] } : Frm)))) w57 := S190.sub (.cons _ (.cons _ (.cons _ (.cons _ (.cons_cons _ (.cons_cons _ (.cons_cons _ (List.Sublist.refl _))))))))
  clear S190
  refine ⟨p19, r21, ra, rc, out.set (((out.length : Int) - 1).toNat) ({ (out.getD (((out.length : Int) - 1).toNat) frm0) with gSignals_a := ad11, gSignals_n := (((out.getD ((out.length : Int) - 1).toNat frm0).gSignals_l) ++ [(⟨t3.gText, nuV W r11, nuV W r12, (eqT (nxT W r13).gText (⟨#[109, 111, 116, 111, 114, 111, 108, 97]⟩ : ByteArray)), (eqT (nxT W r14).gText (⟨#[115, 105, 103, 110, 101, 100]⟩ : ByteArray)), nuV W r15, nuV W r16, nuV W r17, nuV W r18, nuV W r19⟩ : Sig)]).length, gSignals_c := cd11, gSignals_l := ((out.getD ((out.length : Int) - 1).toNat frm0).gSignals_l) ++ [(⟨t3.gText, nuV W r11, nuV W r12, (eqT (nxT W r13).gText (⟨#[109, 111, 116, 111, 114, 111, 108, 97]⟩ : ByteArray)), (eqT (nxT W r14).gText (⟨#[115, 105, 103, 110, 101, 100]⟩ : ByteArray)), nuV W r15, nuV W r16, nuV W r17, nuV W r18, nuV W r19⟩ : Sig)] } : Frm), ln_sg (by rw [← ht1]; exact fk1) (by rw [← ht1]; exact nb fk4) (by omega) ?_ (sg_map (by omega) ((cl_sig (⟨t3.gText, nuV W r11, nuV W r12, (eqT (nxT W r13).gText (⟨#[109, 111, 116, 111, 114, 111, 108, 97]⟩ : ByteArray)), (eqT (nxT W r14).gText (⟨#[115, 105, 103, 110, 101, 100]⟩ : ByteArray)), nuV W r15, nuV W r16, nuV W r17, nuV W r18, nuV W r19⟩ : Sig) ad11 cd11).trans (congrArg _ ?_))), hp21, hj23, all_set hof (okF_add (all_last hof (by omega)) (okG_of (by omega) _ _ (nuV_px _ _) (nuV_px _ _) (nuV_px _ _) (nuV_px _ _) (nuV_px _ _) (nuV_px _ _) (nuV_px _ _)) _ _) _, by rw [List.length_set]; omega, all_set (Q := fun y => (y.gSignals_l.length : Int) ≤ m + 1) (fun y hy => Int.le_trans (hsl y hy) (by omega)) (by show ((_ ++ [_] : List Sig).length : Int) ≤ m + 1; rw [List.length_append, List.length_singleton]; omega) _, by rw [List.length_set]; rfl, S191⟩
  · subst hr1; subst hr11; subst hr12; subst hr13; subst hr14; subst hr15; subst hr16; subst hr17; subst hr18; subst hr19; subst hr20; subst hr21; rfl
  · subst hr1; subst hr11; subst hr12; subst hr13; subst hr14; subst hr15; subst hr16; subst hr17; subst hr18; subst hr19; subst hr20; subst hr21; subst ht1; subst ht3; rfl
 have W2 : ∀ (ad11 : Option Addr) (cd11 : Nat) (w58 : World), Sep w0 (box b8 [.string t3.gText, iv (nuV W r11), iv (nuV W r12), .bool (eqT (nxT W r13).gText (⟨#[109, 111, 116, 111, 114, 111, 108, 97]⟩ : ByteArray)), .bool (eqT (nxT W r14).gText (⟨#[115, 105, 103, 110, 101, 100]⟩ : ByteArray)), iv (nuV W r15), iv (nuV W r16), iv (nuV W r17), iv (nuV W r18), iv (nuV W r19)] 57 :: box b3 [iv t1.gKind, .string t1.gText, iv t1.gPlace_Line, iv t1.gPlace_Column] 109 :: box b2 [.slice none 0 0] 24 :: box b1 [.slice ra out.length rc] 24 :: box b [.slice p19 (W.length - r21.j) (c - r21.j), iv el, iv ec, iv r21.pl, iv r21.pc, iv r21.e] 94 :: rowOf tkE a c 109 4 W :: rowOf frmE ra rc 34 5 out :: rowOf sigE ad11 cd11 57 10 (((out.getD ((out.length : Int) - 1).toNat frm0).gSignals_l) ++ [(⟨t3.gText, nuV W r11, nuV W r12, (eqT (nxT W r13).gText (⟨#[109, 111, 116, 111, 114, 111, 108, 97]⟩ : ByteArray)), (eqT (nxT W r14).gText (⟨#[115, 105, 103, 110, 101, 100]⟩ : ByteArray)), nuV W r15, nuV W r16, nuV W r17, nuV W r18, nuV W r19⟩ : Sig)]) :: (L0 ++ tlF out.dropLast)) w58 → WA Tryd.prog 45 114 R K45_64 (fun w_ => Sep w0 [box b8 [.string t3.gText, iv (nuV W r11), iv (nuV W r12), .bool (eqT (nxT W r13).gText (⟨#[109, 111, 116, 111, 114, 111, 108, 97]⟩ : ByteArray)), .bool (eqT (nxT W r14).gText (⟨#[115, 105, 103, 110, 101, 100]⟩ : ByteArray)), iv (nuV W r15), iv (nuV W r16), iv (nuV W r17), iv (nuV W r18), iv (nuV W r19)] 57, box b3 [iv t1.gKind, .string t1.gText, iv t1.gPlace_Line, iv t1.gPlace_Column] 109, box b2 [.slice none 0 0] 24, box b1 [.slice ra out.length rc] 24, box b [.slice p19 (W.length - r21.j) (c - r21.j), iv el, iv ec, iv r21.pl, iv r21.pc, iv r21.e] 94, rowOf tkE a c 109 4 W] w_) 1 #[true, true, true, true, true, true, true, true, true, true, true, true, true, true, false] [(3, .pointer (some ⟨b1, 0, none⟩)), (4, .pointer (some ⟨b2, 0, none⟩)), (110, .slice ad11 ((((out.getD ((out.length : Int) - 1).toNat frm0).gSignals_l) ++ [(⟨t3.gText, nuV W r11, nuV W r12, (eqT (nxT W r13).gText (⟨#[109, 111, 116, 111, 114, 111, 108, 97]⟩ : ByteArray)), (eqT (nxT W r14).gText (⟨#[115, 105, 103, 110, 101, 100]⟩ : ByteArray)), nuV W r15, nuV W r16, nuV W r17, nuV W r18, nuV W r19⟩ : Sig)]).length) cd11), (112, .pointer (some ((p20.add (((out.length : Int) - 1).toNat * 5)).add 4)))] w58 := by
  intro ad11 cd11 w58 S192
  refine WA.all [14] (by kernel_rfl) rfl ⟨?_, trivial⟩
  refine WO.set #[true, true, true, true, true, true, true, true, true, true, true, true, true, true, true] (by kernel_rfl) ?_
  refine WO.stRowF S192 6 5 out 32 ((p20.add (((out.length : Int) - 1).toNat * 5)).add 4) p20 (((out.length : Int) - 1).toNat) 4 (out.getD (((out.length : Int) - 1).toNat) frm0) ({ (out.getD (((out.length : Int) - 1).toNat) frm0) with gSignals_a := ad11, gSignals_n := (((out.getD ((out.length : Int) - 1).toNat frm0).gSignals_l) ++ [(⟨t3.gText, nuV W r11, nuV W r12, (eqT (nxT W r13).gText (⟨#[109, 111, 116, 111, 114, 111, 108, 97]⟩ : ByteArray)), (eqT (nxT W r14).gText (⟨#[115, 105, 103, 110, 101, 100]⟩ : ByteArray)), nuV W r15, nuV W r16, nuV W r17, nuV W r18, nuV W r19⟩ : Sig)]).length, gSignals_c := cd11, gSignals_l := ((out.getD ((out.length : Int) - 1).toNat frm0).gSignals_l) ++ [(⟨t3.gText, nuV W r11, nuV W r12, (eqT (nxT W r13).gText (⟨#[109, 111, 116, 111, 114, 111, 108, 97]⟩ : ByteArray)), (eqT (nxT W r14).gText (⟨#[115, 105, 103, 110, 101, 100]⟩ : ByteArray)), nuV W r15, nuV W r16, nuV W r17, nuV W r18, nuV W r19⟩ : Sig)] } : Frm) (.slice ad11 ((((out.getD ((out.length : Int) - 1).toNat frm0).gSignals_l) ++ [(⟨t3.gText, nuV W r11, nuV W r12, (eqT (nxT W r13).gText (⟨#[109, 111, 116, 111, 114, 111, 108, 97]⟩ : ByteArray)), (eqT (nxT W r14).gText (⟨#[115, 105, 103, 110, 101, 100]⟩ : ByteArray)), nuV W r15, nuV W r16, nuV W r17, nuV W r18, nuV W r19⟩ : Sig)]).length) cd11) rfl (by kernel_rfl) rfl hp22 (getD_some (by first | omega | (simp; omega))) (fun _ _ => rfl) (by decide) rfl rfl rfl (by kernel_rfl) ?_
  intro w59 S193
  replace S193 : Sep w0 (box b8 [.string t3.gText, iv (nuV W r11), iv (nuV W r12), .bool (eqT (nxT W r13).gText (⟨#[109, 111, 116, 111, 114, 111, 108, 97]⟩ : ByteArray)), .bool (eqT (nxT W r14).gText (⟨#[115, 105, 103, 110, 101, 100]⟩ : ByteArray)), iv (nuV W r15), iv (nuV W r16), iv (nuV W r17), iv (nuV W r18), iv (nuV W r19)] 57 :: box b3 [iv t1.gKind, .string t1.gText, iv t1.gPlace_Line, iv t1.gPlace_Column] 109 :: box b2 [.slice none 0 0] 24 :: box b1 [.slice ra out.length rc] 24 :: box b [.slice p19 (W.length - r21.j) (c - r21.j), iv el, iv ec, iv r21.pl, iv r21.pc, iv r21.e] 94 :: rowOf tkE a c 109 4 W :: rowOf frmE ra rc 34 5 (out.set (((out.length : Int) - 1).toNat) ({ (out.getD (((out.length : Int) - 1).toNat) frm0) with gSignals_a := ad11, gSignals_n := (((out.getD ((out.length : Int) - 1).toNat frm0).gSignals_l) ++ [(⟨t3.gText, nuV W r11, nuV W r12, (eqT (nxT W r13).gText (⟨#[109, 111, 116, 111, 114, 111, 108, 97]⟩ : ByteArray)), (eqT (nxT W r14).gText (⟨#[115, 105, 103, 110, 101, 100]⟩ : ByteArray)), nuV W r15, nuV W r16, nuV W r17, nuV W r18, nuV W r19⟩ : Sig)]).length, gSignals_c := cd11, gSignals_l := ((out.getD ((out.length : Int) - 1).toNat frm0).gSignals_l) ++ [(⟨t3.gText, nuV W r11, nuV W r12, (eqT (nxT W r13).gText (⟨#[109, 111, 116, 111, 114, 111, 108, 97]⟩ : ByteArray)), (eqT (nxT W r14).gText (⟨#[115, 105, 103, 110, 101, 100]⟩ : ByteArray)), nuV W r15, nuV W r16, nuV W r17, nuV W r18, nuV W r19⟩ : Sig)] } : Frm)) :: rowOf sigE ad11 cd11 57 10 (((out.getD ((out.length : Int) - 1).toNat frm0).gSignals_l) ++ [(⟨t3.gText, nuV W r11, nuV W r12, (eqT (nxT W r13).gText (⟨#[109, 111, 116, 111, 114, 111, 108, 97]⟩ : ByteArray)), (eqT (nxT W r14).gText (⟨#[115, 105, 103, 110, 101, 100]⟩ : ByteArray)), nuV W r15, nuV W r16, nuV W r17, nuV W r18, nuV W r19⟩ : Sig)]) :: (L0 ++ tlF out.dropLast)) w59 := S193
  have S194 := S193.front 7 rfl
  have S195 : Sep w0 (box b8 [.string t3.gText, iv (nuV W r11), iv (nuV W r12), .bool (eqT (nxT W r13).gText (⟨#[109, 111, 116, 111, 114, 111, 108, 97]⟩ : ByteArray)), .bool (eqT (nxT W r14).gText (⟨#[115, 105, 103, 110, 101, 100]⟩ : ByteArray)), iv (nuV W r15), iv (nuV W r16), iv (nuV W r17), iv (nuV W r18), iv (nuV W r19)] 57 :: box b3 [iv t1.gKind, .string t1.gText, iv t1.gPlace_Line, iv t1.gPlace_Column] 109 :: box b2 [.slice none 0 0] 24 :: box b1 [.slice ra out.length rc] 24 :: box b [.slice p19 (W.length - r21.j) (c - r21.j), iv el, iv ec, iv r21.pl, iv r21.pc, iv r21.e] 94 :: rowOf tkE a c 109 4 W :: rowOf frmE ra rc 34 5 (out.set (((out.length : Int) - 1).toNat) ({ (out.getD (((out.length : Int) - 1).toNat) frm0) with gSignals_a := ad11, gSignals_n := (((out.getD ((out.length : Int) - 1).toNat frm0).gSignals_l) ++ [(⟨t3.gText, nuV W r11, nuV W r12, (eqT (nxT W r13).gText (⟨#[109, 111, 116, 111, 114, 111, 108, 97]⟩ : ByteArray)), (eqT (nxT W r14).gText (⟨#[115, 105, 103, 110, 101, 100]⟩ : ByteArray)), nuV W r15, nuV W r16, nuV W r17, nuV W r18, nuV W r19⟩ : Sig)]).length, gSignals_c := cd11, gSignals_l := ((out.getD ((out.length : Int) - 1).toNat frm0).gSignals_l) ++ [(⟨t3.gText, nuV W r11, nuV W r12, (eqT (nxT W r13).gText (⟨#[109, 111, 116, 111, 114, 111, 108, 97]⟩ : ByteArray)), (eqT (nxT W r14).gText (⟨#[115, 105, 103, 110, 101, 100]⟩ : ByteArray)), nuV W r15, nuV W r16, nuV W r17, nuV W r18, nuV W r19⟩ : Sig)] } : Frm)) :: (L0 ++ tlF (out.set (((out.length : Int) - 1).toNat) ({ (out.getD (((out.length : Int) - 1).toNat) frm0) with gSignals_a := ad11, gSignals_n := (((out.getD ((out.length : Int) - 1).toNat frm0).gSignals_l) ++ [(⟨t3.gText, nuV W r11, nuV W r12, (eqT (nxT W r13).gText (⟨#[109, 111, 116, 111, 114, 111, 108, 97]⟩ : ByteArray)), (eqT (nxT W r14).gText (⟨#[115, 105, 103, 110, 101, 100]⟩ : ByteArray)), nuV W r15, nuV W r16, nuV W r17, nuV W r18, nuV W r19⟩ : Sig)]).length, gSignals_c := cd11, gSignals_l := ((out.getD ((out.length : Int) - 1).toNat frm0).gSignals_l) ++ [(⟨t3.gText, nuV W r11, nuV W r12, (eqT (nxT W r13).gText (⟨#[109, 111, 116, 111, 114, 111, 108, 97]⟩ : ByteArray)), (eqT (nxT W r14).gText (⟨#[115, 105, 103, 110, 101, 100]⟩ : ByteArray)), nuV W r15, nuV W r16, nuV W r17, nuV W r18, nuV W r19⟩ : Sig)] } : Frm)))) w59 := tk_set (x := ({ (out.getD (((out.length : Int) - 1).toNat) frm0) with gSignals_a := ad11, gSignals_n := (((out.getD ((out.length : Int) - 1).toNat frm0).gSignals_l) ++ [(⟨t3.gText, nuV W r11, nuV W r12, (eqT (nxT W r13).gText (⟨#[109, 111, 116, 111, 114, 111, 108, 97]⟩ : ByteArray)), (eqT (nxT W r14).gText (⟨#[115, 105, 103, 110, 101, 100]⟩ : ByteArray)), nuV W r15, nuV W r16, nuV W r17, nuV W r18, nuV W r19⟩ : Sig)]).length, gSignals_c := cd11, gSignals_l := ((out.getD ((out.length : Int) - 1).toNat frm0).gSignals_l) ++ [(⟨t3.gText, nuV W r11, nuV W r12, (eqT (nxT W r13).gText (⟨#[109, 111, 116, 111, 114, 111, 108, 97]⟩ : ByteArray)), (eqT (nxT W r14).gText (⟨#[115, 105, 103, 110, 101, 100]⟩ : ByteArray)), nuV W r15, nuV W r16, nuV W r17, nuV W r18, nuV W r19⟩ : Sig)] } : Frm)) [box b8 [.string t3.gText, iv (nuV W r11), iv (nuV W r12), .bool (eqT (nxT W r13).gText (⟨#[109, 111, 116, 111, 114, 111, 108, 97]⟩ : ByteArray)), .bool (eqT (nxT W r14).gText (⟨#[115, 105, 103, 110, 101, 100]⟩ : ByteArray)), iv (nuV W r15), iv (nuV W r16), iv (nuV W r17), iv (nuV W r18), iv (nuV W r19)] 57, box b3 [iv t1.gKind, .string t1.gText, iv t1.gPlace_Line, iv t1.gPlace_Column] 109, box b2 [.slice none 0 0] 24, box b1 [.slice ra out.length rc] 24, box b [.slice p19 (W.length - r21.j) (c - r21.j), iv el, iv ec, iv r21.pl, iv r21.pc, iv r21.e] 94, rowOf tkE a c 109 4 W, rowOf frmE ra rc 34 5 (out.set (((out.length : Int) - 1).toNat) ({ (out.getD (((out.length : Int) - 1).toNat) frm0) with gSignals_a := ad11, gSignals_n := (((out.getD ((out.length : Int) - 1).toNat frm0).gSignals_l) ++ [(⟨t3.gText, nuV W r11, nuV W r12, (eqT (nxT W r13).gText (⟨#[109, 111, 116, 111, 114, 111, 108, 97]⟩ : ByteArray)), (eqT (nxT W r14).gText (⟨#[115, 105, 103, 110, 101, 100]⟩ : ByteArray)), nuV W r15, nuV W r16, nuV W r17, nuV W r18, nuV W r19⟩ : Sig)]).length, gSignals_c := cd11, gSignals_l := ((out.getD ((out.length : Int) - 1).toNat frm0).gSignals_l) ++ [(⟨t3.gText, nuV W r11, nuV W r12, (eqT (nxT W r13).gText (⟨#[109, 111, 116, 111, 114, 111, 108, 97]⟩ : ByteArray)), (eqT (nxT W r14).gText (⟨#[115, 105, 103, 110, 101, 100]⟩ : ByteArray)), nuV W r15, nuV W r16, nuV W r17, nuV W r18, nuV W r19⟩ : Sig)] } : Frm))] (show out.length ≠ 0 by omega) S194
  refine WB.mk (S195.sub (.cons_cons _ (.cons_cons _ (.cons_cons _ (.cons_cons _ (.cons_cons _ (.cons_cons _ (List.nil_sublist _)))))))) ?_
  refine WA.weaken (env' := [(3, .pointer (some ⟨b1, 0, none⟩)), (4, .pointer (some ⟨b2, 0, none⟩))]) (by kernel_rfl) ?_
  exact W1 ad11 cd11 w59 S195
 have W3 : ∀ (bd10 : Nat) (w60 : World), Sep w0 (box bd10 [.string t3.gText, iv (nuV W r11), iv (nuV W r12), .bool (eqT (nxT W r13).gText (⟨#[109, 111, 116, 111, 114, 111, 108, 97]⟩ : ByteArray)), .bool (eqT (nxT W r14).gText (⟨#[115, 105, 103, 110, 101, 100]⟩ : ByteArray)), iv (nuV W r15), iv (nuV W r16), iv (nuV W r17), iv (nuV W r18), iv (nuV W r19)] 57 :: box b8 [.string t3.gText, iv (nuV W r11), iv (nuV W r12), .bool (eqT (nxT W r13).gText (⟨#[109, 111, 116, 111, 114, 111, 108, 97]⟩ : ByteArray)), .bool (eqT (nxT W r14).gText (⟨#[115, 105, 103, 110, 101, 100]⟩ : ByteArray)), iv (nuV W r15), iv (nuV W r16), iv (nuV W r17), iv (nuV W r18), iv (nuV W r19)] 57 :: box b3 [iv t1.gKind, .string t1.gText, iv t1.gPlace_Line, iv t1.gPlace_Column] 109 :: box b2 [.slice none 0 0] 24 :: box b1 [.slice ra out.length rc] 24 :: box b [.slice p19 (W.length - r21.j) (c - r21.j), iv el, iv ec, iv r21.pl, iv r21.pc, iv r21.e] 94 :: rowOf tkE a c 109 4 W :: rowOf frmE ra rc 34 5 out :: rowOf sigE ((out.getD ((out.length : Int) - 1).toNat frm0).gSignals_a) ((out.getD ((out.length : Int) - 1).toNat frm0).gSignals_c) 57 10 ((out.getD ((out.length : Int) - 1).toNat frm0).gSignals_l) :: (L0 ++ tlF out.dropLast)) w60 → WA Tryd.prog 45 114 R K45_64 (fun w_ => Sep w0 [box b8 [.string t3.gText, iv (nuV W r11), iv (nuV W r12), .bool (eqT (nxT W r13).gText (⟨#[109, 111, 116, 111, 114, 111, 108, 97]⟩ : ByteArray)), .bool (eqT (nxT W r14).gText (⟨#[115, 105, 103, 110, 101, 100]⟩ : ByteArray)), iv (nuV W r15), iv (nuV W r16), iv (nuV W r17), iv (nuV W r18), iv (nuV W r19)] 57, box b3 [iv t1.gKind, .string t1.gText, iv t1.gPlace_Line, iv t1.gPlace_Column] 109, box b2 [.slice none 0 0] 24, box b1 [.slice ra out.length rc] 24, box b [.slice p19 (W.length - r21.j) (c - r21.j), iv el, iv ec, iv r21.pl, iv r21.pc, iv r21.e] 94, rowOf tkE a c 109 4 W] w_) 4 #[true, true, true, true, true, true, true, true, true, true, true, false, false, false, false] [(3, .pointer (some ⟨b1, 0, none⟩)), (4, .pointer (some ⟨b2, 0, none⟩)), (100, .slice ra out.length rc), (101, iv ((out.length : Int) - 1)), (107, .slice ((out.getD ((out.length : Int) - 1).toNat frm0).gSignals_a) ((out.getD ((out.length : Int) - 1).toNat frm0).gSignals_l.length) ((out.getD ((out.length : Int) - 1).toNat frm0).gSignals_c)), (109, .slice (some ⟨bd10, 0, none⟩) 1 1)] w60 := by
  intro bd10 w60 S196
  refine WA.all [11] (by kernel_rfl) rfl ⟨?_, trivial⟩
  refine WO.set #[true, true, true, true, true, true, true, true, true, true, true, true, false, false, false] (by kernel_rfl) ?_
  refine WO.append sigE S196 8 ((out.getD ((out.length : Int) - 1).toNat frm0).gSignals_l) (⟨t3.gText, nuV W r11, nuV W r12, (eqT (nxT W r13).gText (⟨#[109, 111, 116, 111, 114, 111, 108, 97]⟩ : ByteArray)), (eqT (nxT W r14).gText (⟨#[115, 105, 103, 110, 101, 100]⟩ : ByteArray)), nuV W r15, nuV W r16, nuV W r17, nuV W r18, nuV W r19⟩ : Sig) 110 32 (.agg #[.string ByteArray.empty, iv 0, iv 0, .bool false, .bool false, iv 0, iv 0, iv 0, iv 0, iv 0]) 80 ⟨bd10, 0, none⟩ 1 rfl (by kernel_rfl) (by kernel_rfl) (by kernel_rfl) (by kernel_rfl) (by decide) (box_cells (S196.nth 0 rfl)) (by kernel_rfl) (by kernel_rfl) (⟨by omega, by omega⟩) ?_
  intro ad11 cd11 w61 S197
  replace S197 : Sep w0 (box bd10 [.string t3.gText, iv (nuV W r11), iv (nuV W r12), .bool (eqT (nxT W r13).gText (⟨#[109, 111, 116, 111, 114, 111, 108, 97]⟩ : ByteArray)), .bool (eqT (nxT W r14).gText (⟨#[115, 105, 103, 110, 101, 100]⟩ : ByteArray)), iv (nuV W r15), iv (nuV W r16), iv (nuV W r17), iv (nuV W r18), iv (nuV W r19)] 57 :: box b8 [.string t3.gText, iv (nuV W r11), iv (nuV W r12), .bool (eqT (nxT W r13).gText (⟨#[109, 111, 116, 111, 114, 111, 108, 97]⟩ : ByteArray)), .bool (eqT (nxT W r14).gText (⟨#[115, 105, 103, 110, 101, 100]⟩ : ByteArray)), iv (nuV W r15), iv (nuV W r16), iv (nuV W r17), iv (nuV W r18), iv (nuV W r19)] 57 :: box b3 [iv t1.gKind, .string t1.gText, iv t1.gPlace_Line, iv t1.gPlace_Column] 109 :: box b2 [.slice none 0 0] 24 :: box b1 [.slice ra out.length rc] 24 :: box b [.slice p19 (W.length - r21.j) (c - r21.j), iv el, iv ec, iv r21.pl, iv r21.pc, iv r21.e] 94 :: rowOf tkE a c 109 4 W :: rowOf frmE ra rc 34 5 out :: rowOf sigE ad11 cd11 57 10 (((out.getD ((out.length : Int) - 1).toNat frm0).gSignals_l) ++ [(⟨t3.gText, nuV W r11, nuV W r12, (eqT (nxT W r13).gText (⟨#[109, 111, 116, 111, 114, 111, 108, 97]⟩ : ByteArray)), (eqT (nxT W r14).gText (⟨#[115, 105, 103, 110, 101, 100]⟩ : ByteArray)), nuV W r15, nuV W r16, nuV W r17, nuV W r18, nuV W r19⟩ : Sig)]) :: (L0 ++ tlF out.dropLast)) w61 := S197
  have S198 : Sep w0 (box b8 [.string t3.gText, iv (nuV W r11), iv (nuV W r12), .bool (eqT (nxT W r13).gText (⟨#[109, 111, 116, 111, 114, 111, 108, 97]⟩ : ByteArray)), .bool (eqT (nxT W r14).gText (⟨#[115, 105, 103, 110, 101, 100]⟩ : ByteArray)), iv (nuV W r15), iv (nuV W r16), iv (nuV W r17), iv (nuV W r18), iv (nuV W r19)] 57 :: box b3 [iv t1.gKind, .string t1.gText, iv t1.gPlace_Line, iv t1.gPlace_Column] 109 :: box b2 [.slice none 0 0] 24 :: box b1 [.slice ra out.length rc] 24 :: box b [.slice p19 (W.length - r21.j) (c - r21.j), iv el, iv ec, iv r21.pl, iv r21.pc, iv r21.e] 94 :: rowOf tkE a c 109 4 W :: rowOf frmE ra rc 34 5 out :: rowOf sigE ad11 cd11 57 10 (((out.getD ((out.length : Int) - 1).toNat frm0).gSignals_l) ++ [(⟨t3.gText, nuV W r11, nuV W r12, (eqT (nxT W r13).gText (⟨#[109, 111, 116, 111, 114, 111, 108, 97]⟩ : ByteArray)), (eqT (nxT W r14).gText (⟨#[115, 105, 103, 110, 101, 100]⟩ : ByteArray)), nuV W r15, nuV W r16, nuV W r17, nuV W r18, nuV W r19⟩ : Sig)]) :: (L0 ++ tlF out.dropLast)) w61 := S197.erase 0
  clear S197
  refine WB.mk (S198.sub (.cons_cons _ (.cons_cons _ (.cons_cons _ (.cons_cons _ (.cons_cons _ (.cons_cons _ (List.nil_sublist _)))))))) ?_
  refine WA.takeOK 12 #[true, true, true, true, true, true, true, true, true, true, true, true, true, false, false] (by kernel_rfl) (by kernel_rfl) (by kernel_rfl) (by kernel_rfl) (fun w_ S_ => OK.index 111 22 5 ra p20 out.length ((out.length : Int) - 1).toNat ((out.length : Int) - 1) (p20.add (((out.length : Int) - 1).toNat * 5)) (by kernel_rfl) (by kernel_rfl) hp22 (by omega) (by omega) rfl) rfl ?_
  refine WA.take 13 112 (.pointer (some ((p20.add (((out.length : Int) - 1).toNat * 5)).add 4))) #[true, true, true, true, true, true, true, true, true, true, true, true, true, true, false] (by kernel_rfl) (by kernel_rfl) (by kernel_rfl) (fun _ _ => by kernel_rfl) (by kernel_rfl) ?_
  refine WA.weaken (env' := [(3, .pointer (some ⟨b1, 0, none⟩)), (4, .pointer (some ⟨b2, 0, none⟩)), (110, .slice ad11 ((((out.getD ((out.length : Int) - 1).toNat frm0).gSignals_l) ++ [(⟨t3.gText, nuV W r11, nuV W r12, (eqT (nxT W r13).gText (⟨#[109, 111, 116, 111, 114, 111, 108, 97]⟩ : ByteArray)), (eqT (nxT W r14).gText (⟨#[115, 105, 103, 110, 101, 100]⟩ : ByteArray)), nuV W r15, nuV W r16, nuV W r17, nuV W r18, nuV W r19⟩ : Sig)]).length) cd11), (112, .pointer (some ((p20.add (((out.length : Int) - 1).toNat * 5)).add 4)))]) (by kernel_rfl) ?_
  exact W2 ad11 cd11 w61 S198
 have W4 : ∀ (w62 : World), Sep w0 (box b8 [.string t3.gText, iv (nuV W r11), iv (nuV W r12), .bool (eqT (nxT W r13).gText (⟨#[109, 111, 116, 111, 114, 111, 108, 97]⟩ : ByteArray)), .bool (eqT (nxT W r14).gText (⟨#[115, 105, 103, 110, 101, 100]⟩ : ByteArray)), iv (nuV W r15), iv (nuV W r16), iv (nuV W r17), iv (nuV W r18), iv (nuV W r19)] 57 :: box b3 [iv t1.gKind, .string t1.gText, iv t1.gPlace_Line, iv t1.gPlace_Column] 109 :: box b2 [.slice none 0 0] 24 :: box b1 [.slice ra out.length rc] 24 :: box b [.slice p19 (W.length - r21.j) (c - r21.j), iv el, iv ec, iv r21.pl, iv r21.pc, iv r21.e] 94 :: rowOf tkE a c 109 4 W :: rowOf frmE ra rc 34 5 out :: rowOf sigE ((out.getD ((out.length : Int) - 1).toNat frm0).gSignals_a) ((out.getD ((out.length : Int) - 1).toNat frm0).gSignals_c) 57 10 ((out.getD ((out.length : Int) - 1).toNat frm0).gSignals_l) :: (L0 ++ tlF out.dropLast)) w62 → WA Tryd.prog 45 114 R K45_64 (fun w_ => Sep w0 [box b8 [.string t3.gText, iv (nuV W r11), iv (nuV W r12), .bool (eqT (nxT W r13).gText (⟨#[109, 111, 116, 111, 114, 111, 108, 97]⟩ : ByteArray)), .bool (eqT (nxT W r14).gText (⟨#[115, 105, 103, 110, 101, 100]⟩ : ByteArray)), iv (nuV W r15), iv (nuV W r16), iv (nuV W r17), iv (nuV W r18), iv (nuV W r19)] 57, box b3 [iv t1.gKind, .string t1.gText, iv t1.gPlace_Line, iv t1.gPlace_Column] 109, box b2 [.slice none 0 0] 24, box b1 [.slice ra out.length rc] 24, box b [.slice p19 (W.length - r21.j) (c - r21.j), iv el, iv ec, iv r21.pl, iv r21.pc, iv r21.e] 94, rowOf tkE a c 109 4 W] w_) 5 #[true, true, true, true, true, true, true, true, true, true, false, false, false, false, false] [(3, .pointer (some ⟨b1, 0, none⟩)), (4, .pointer (some ⟨b2, 0, none⟩)), (100, .slice ra out.length rc), (101, iv ((out.length : Int) - 1)), (107, .slice ((out.getD ((out.length : Int) - 1).toNat frm0).gSignals_a) ((out.getD ((out.length : Int) - 1).toNat frm0).gSignals_l.length) ((out.getD ((out.length : Int) - 1).toNat frm0).gSignals_c)), (108, .agg #[.string t3.gText, iv (nuV W r11), iv (nuV W r12), .bool (eqT (nxT W r13).gText (⟨#[109, 111, 116, 111, 114, 111, 108, 97]⟩ : ByteArray)), .bool (eqT (nxT W r14).gText (⟨#[115, 105, 103, 110, 101, 100]⟩ : ByteArray)), iv (nuV W r15), iv (nuV W r16), iv (nuV W r17), iv (nuV W r18), iv (nuV W r19)])] w62 := by
  intro w62 S199
  refine WA.all [10] (by kernel_rfl) rfl ⟨?_, trivial⟩
  refine WO.set #[true, true, true, true, true, true, true, true, true, true, true, false, false, false, false] (by kernel_rfl) ?_
  refine WO.newSlice S199 109 1 [.string t3.gText, iv (nuV W r11), iv (nuV W r12), .bool (eqT (nxT W r13).gText (⟨#[109, 111, 116, 111, 114, 111, 108, 97]⟩ : ByteArray)), .bool (eqT (nxT W r14).gText (⟨#[115, 105, 103, 110, 101, 100]⟩ : ByteArray)), iv (nuV W r15), iv (nuV W r16), iv (nuV W r17), iv (nuV W r18), iv (nuV W r19)] 57 (by kernel_rfl) ?_
  intro bd10 w63 S200
  refine WB.mk (S200.sub (.cons _ (.cons_cons _ (.cons_cons _ (.cons_cons _ (.cons_cons _ (.cons_cons _ (.cons_cons _ (List.nil_sublist _))))))))) ?_
  refine WA.weaken (env' := [(3, .pointer (some ⟨b1, 0, none⟩)), (4, .pointer (some ⟨b2, 0, none⟩)), (100, .slice ra out.length rc), (101, iv ((out.length : Int) - 1)), (107, .slice ((out.getD ((out.length : Int) - 1).toNat frm0).gSignals_a) ((out.getD ((out.length : Int) - 1).toNat frm0).gSignals_l.length) ((out.getD ((out.length : Int) - 1).toNat frm0).gSignals_c)), (109, .slice (some ⟨bd10, 0, none⟩) 1 1)]) (by kernel_rfl) ?_
  exact W3 bd10 w63 S200
 have W5 : ∀ (bd10 : Nat) (w64 : World), Sep w0 (box bd10 [.string t3.gText, iv (nuV W r11), iv (nuV W r12), .bool (eqT (nxT W r13).gText (⟨#[109, 111, 116, 111, 114, 111, 108, 97]⟩ : ByteArray)), .bool (eqT (nxT W r14).gText (⟨#[115, 105, 103, 110, 101, 100]⟩ : ByteArray)), iv (nuV W r15), iv (nuV W r16), iv (nuV W r17), iv (nuV W r18), iv (nuV W r19)] 57 :: box b8 [.string t3.gText, iv (nuV W r11), iv (nuV W r12), .bool (eqT (nxT W r13).gText (⟨#[109, 111, 116, 111, 114, 111, 108, 97]⟩ : ByteArray)), .bool (eqT (nxT W r14).gText (⟨#[115, 105, 103, 110, 101, 100]⟩ : ByteArray)), iv (nuV W r15), iv (nuV W r16), iv (nuV W r17), iv (nuV W r18), iv (nuV W r19)] 57 :: box b3 [iv t1.gKind, .string t1.gText, iv t1.gPlace_Line, iv t1.gPlace_Column] 109 :: box b2 [.slice none 0 0] 24 :: box b1 [.slice ra out.length rc] 24 :: box b [.slice p19 (W.length - r21.j) (c - r21.j), iv el, iv ec, iv r21.pl, iv r21.pc, iv r21.e] 94 :: rowOf tkE a c 109 4 W :: rowOf frmE ra rc 34 5 out :: rowOf sigE ((out.getD ((out.length : Int) - 1).toNat frm0).gSignals_a) ((out.getD ((out.length : Int) - 1).toNat frm0).gSignals_c) 57 10 ((out.getD ((out.length : Int) - 1).toNat frm0).gSignals_l) :: (L0 ++ tlF out.dropLast)) w64 → WA Tryd.prog 45 114 R K45_64 (fun w_ => Sep w0 [box b8 [.string t3.gText, iv (nuV W r11), iv (nuV W r12), .bool (eqT (nxT W r13).gText (⟨#[109, 111, 116, 111, 114, 111, 108, 97]⟩ : ByteArray)), .bool (eqT (nxT W r14).gText (⟨#[115, 105, 103, 110, 101, 100]⟩ : ByteArray)), iv (nuV W r15), iv (nuV W r16), iv (nuV W r17), iv (nuV W r18), iv (nuV W r19)] 57, box b3 [iv t1.gKind, .string t1.gText, iv t1.gPlace_Line, iv t1.gPlace_Column] 109, box b2 [.slice none 0 0] 24, box b1 [.slice ra out.length rc] 24, box b [.slice p19 (W.length - r21.j) (c - r21.j), iv el, iv ec, iv r21.pl, iv r21.pc, iv r21.e] 94, rowOf tkE a c 109 4 W] w_) 5 #[true, true, true, true, true, true, true, true, false, true, true, false, false, false, false] [(3, .pointer (some ⟨b1, 0, none⟩)), (4, .pointer (some ⟨b2, 0, none⟩)), (100, .slice ra out.length rc), (101, iv ((out.length : Int) - 1)), (106, .pointer (some ((p20.add (((out.length : Int) - 1).toNat * 5)).add 4))), (109, .slice (some ⟨bd10, 0, none⟩) 1 1)] w64 := by
  intro bd10 w64 S201
  refine WA.all [8] (by kernel_rfl) rfl ⟨?_, trivial⟩
  refine WO.set #[true, true, true, true, true, true, true, true, true, true, true, false, false, false, false] (by kernel_rfl) ?_
  refine WO.ok (OK.ldCell 107 32 ((p20.add (((out.length : Int) - 1).toNat * 5)).add 4) (.slice ((out.getD ((out.length : Int) - 1).toNat frm0).gSignals_a) ((out.getD ((out.length : Int) - 1).toNat frm0).gSignals_n) ((out.getD ((out.length : Int) - 1).toNat frm0).gSignals_c)) (by kernel_rfl) (by kernel_rfl) (row_cell (S201.nth 7 rfl) (fun _ => rfl) (by decide) hp22 frm0 (((out.length : Int) - 1).toNat) (by omega) 4 _ rfl)) ?_
  refine WB.head (.slice ((out.getD ((out.length : Int) - 1).toNat frm0).gSignals_a) ((out.getD ((out.length : Int) - 1).toNat frm0).gSignals_l.length) ((out.getD ((out.length : Int) - 1).toNat frm0).gSignals_c)) (by rw [hln]) ?_
  refine WB.mk (S201.sub (.cons _ (.cons_cons _ (.cons_cons _ (.cons_cons _ (.cons_cons _ (.cons_cons _ (.cons_cons _ (List.nil_sublist _))))))))) ?_
  refine WA.weaken (env' := [(3, .pointer (some ⟨b1, 0, none⟩)), (4, .pointer (some ⟨b2, 0, none⟩)), (100, .slice ra out.length rc), (101, iv ((out.length : Int) - 1)), (107, .slice ((out.getD ((out.length : Int) - 1).toNat frm0).gSignals_a) ((out.getD ((out.length : Int) - 1).toNat frm0).gSignals_l.length) ((out.getD ((out.length : Int) - 1).toNat frm0).gSignals_c)), (109, .slice (some ⟨bd10, 0, none⟩) 1 1)]) (by kernel_rfl) ?_
  exact W3 bd10 w64 S201
 have W6 : ∀ (w65 : World), Sep w0 (box b8 [.string t3.gText, iv (nuV W r11), iv (nuV W r12), .bool (eqT (nxT W r13).gText (⟨#[109, 111, 116, 111, 114, 111, 108, 97]⟩ : ByteArray)), .bool (eqT (nxT W r14).gText (⟨#[115, 105, 103, 110, 101, 100]⟩ : ByteArray)), iv (nuV W r15), iv (nuV W r16), iv (nuV W r17), iv (nuV W r18), iv (nuV W r19)] 57 :: box b3 [iv t1.gKind, .string t1.gText, iv t1.gPlace_Line, iv t1.gPlace_Column] 109 :: box b2 [.slice none 0 0] 24 :: box b1 [.slice ra out.length rc] 24 :: box b [.slice p19 (W.length - r21.j) (c - r21.j), iv el, iv ec, iv r21.pl, iv r21.pc, iv r21.e] 94 :: rowOf tkE a c 109 4 W :: rowOf frmE ra rc 34 5 out :: rowOf sigE ((out.getD ((out.length : Int) - 1).toNat frm0).gSignals_a) ((out.getD ((out.length : Int) - 1).toNat frm0).gSignals_c) 57 10 ((out.getD ((out.length : Int) - 1).toNat frm0).gSignals_l) :: (L0 ++ tlF out.dropLast)) w65 → WA Tryd.prog 45 114 R K45_64 (fun w_ => Sep w0 [box b8 [.string t3.gText, iv (nuV W r11), iv (nuV W r12), .bool (eqT (nxT W r13).gText (⟨#[109, 111, 116, 111, 114, 111, 108, 97]⟩ : ByteArray)), .bool (eqT (nxT W r14).gText (⟨#[115, 105, 103, 110, 101, 100]⟩ : ByteArray)), iv (nuV W r15), iv (nuV W r16), iv (nuV W r17), iv (nuV W r18), iv (nuV W r19)] 57, box b3 [iv t1.gKind, .string t1.gText, iv t1.gPlace_Line, iv t1.gPlace_Column] 109, box b2 [.slice none 0 0] 24, box b1 [.slice ra out.length rc] 24, box b [.slice p19 (W.length - r21.j) (c - r21.j), iv el, iv ec, iv r21.pl, iv r21.pc, iv r21.e] 94, rowOf tkE a c 109 4 W] w_) 6 #[true, true, true, true, true, true, true, true, false, true, false, false, false, false, false] [(3, .pointer (some ⟨b1, 0, none⟩)), (4, .pointer (some ⟨b2, 0, none⟩)), (100, .slice ra out.length rc), (101, iv ((out.length : Int) - 1)), (106, .pointer (some ((p20.add (((out.length : Int) - 1).toNat * 5)).add 4))), (108, .agg #[.string t3.gText, iv (nuV W r11), iv (nuV W r12), .bool (eqT (nxT W r13).gText (⟨#[109, 111, 116, 111, 114, 111, 108, 97]⟩ : ByteArray)), .bool (eqT (nxT W r14).gText (⟨#[115, 105, 103, 110, 101, 100]⟩ : ByteArray)), iv (nuV W r15), iv (nuV W r16), iv (nuV W r17), iv (nuV W r18), iv (nuV W r19)])] w65 := by
  intro w65 S202
  refine WA.all [8, 10] (by kernel_rfl) rfl ⟨?_, ?_, trivial⟩
  ·skip
   refine WO.set #[true, true, true, true, true, true, true, true, true, true, false, false, false, false, false] (by kernel_rfl) ?_
   refine WO.ok (OK.ldCell 107 32 ((p20.add (((out.length : Int) - 1).toNat * 5)).add 4) (.slice ((out.getD ((out.length : Int) - 1).toNat frm0).gSignals_a) ((out.getD ((out.length : Int) - 1).toNat frm0).gSignals_n) ((out.getD ((out.length : Int) - 1).toNat frm0).gSignals_c)) (by kernel_rfl) (by kernel_rfl) (row_cell (S202.nth 6 rfl) (fun _ => rfl) (by decide) hp22 frm0 (((out.length : Int) - 1).toNat) (by omega) 4 _ rfl)) ?_
   refine WB.head (.slice ((out.getD ((out.length : Int) - 1).toNat frm0).gSignals_a) ((out.getD ((out.length : Int) - 1).toNat frm0).gSignals_l.length) ((out.getD ((out.length : Int) - 1).toNat frm0).gSignals_c)) (by rw [hln]) ?_
   refine WB.mk (S202.sub (.cons_cons _ (.cons_cons _ (.cons_cons _ (.cons_cons _ (.cons_cons _ (.cons_cons _ (List.nil_sublist _)))))))) ?_
   refine WA.weaken (env' := [(3, .pointer (some ⟨b1, 0, none⟩)), (4, .pointer (some ⟨b2, 0, none⟩)), (100, .slice ra out.length rc), (101, iv ((out.length : Int) - 1)), (107, .slice ((out.getD ((out.length : Int) - 1).toNat frm0).gSignals_a) ((out.getD ((out.length : Int) - 1).toNat frm0).gSignals_l.length) ((out.getD ((out.length : Int) - 1).toNat frm0).gSignals_c)), (108, .agg #[.string t3.gText, iv (nuV W r11), iv (nuV W r12), .bool (eqT (nxT W r13).gText (⟨#[109, 111, 116, 111, 114, 111, 108, 97]⟩ : ByteArray)), .bool (eqT (nxT W r14).gText (⟨#[115, 105, 103, 110, 101, 100]⟩ : ByteArray)), iv (nuV W r15), iv (nuV W r16), iv (nuV W r17), iv (nuV W r18), iv (nuV W r19)])]) (by kernel_rfl) ?_
   exact W4 w65 S202
  refine WO.set #[true, true, true, true, true, true, true, true, false, true, true, false, false, false, false] (by kernel_rfl) ?_
  refine WO.newSlice S202 109 1 [.string t3.gText, iv (nuV W r11), iv (nuV W r12), .bool (eqT (nxT W r13).gText (⟨#[109, 111, 116, 111, 114, 111, 108, 97]⟩ : ByteArray)), .bool (eqT (nxT W r14).gText (⟨#[115, 105, 103, 110, 101, 100]⟩ : ByteArray)), iv (nuV W r15), iv (nuV W r16), iv (nuV W r17), iv (nuV W r18), iv (nuV W r19)] 57 (by kernel_rfl) ?_
  intro bd10 w66 S203
  refine WB.mk (S203.sub (.cons _ (.cons_cons _ (.cons_cons _ (.cons_cons _ (.cons_cons _ (.cons_cons _ (.cons_cons _ (List.nil_sublist _))))))))) ?_
  refine WA.weaken (env' := [(3, .pointer (some ⟨b1, 0, none⟩)), (4, .pointer (some ⟨b2, 0, none⟩)), (100, .slice ra out.length rc), (101, iv ((out.length : Int) - 1)), (106, .pointer (some ((p20.add (((out.length : Int) - 1).toNat * 5)).add 4))), (109, .slice (some ⟨bd10, 0, none⟩) 1 1)]) (by kernel_rfl) ?_
  exact W5 bd10 w66 S203
 refine J.drawAny (fun w_ => Sep w0 [box b8 [.string t3.gText, iv (nuV W r11), iv (nuV W r12), .bool (eqT (nxT W r13).gText (⟨#[109, 111, 116, 111, 114, 111, 108, 97]⟩ : ByteArray)), .bool (eqT (nxT W r14).gText (⟨#[115, 105, 103, 110, 101, 100]⟩ : ByteArray)), iv (nuV W r15), iv (nuV W r16), iv (nuV W r17), iv (nuV W r18), iv (nuV W r19)] 57, box b3 [iv t1.gKind, .string t1.gText, iv t1.gPlace_Line, iv t1.gPlace_Column] 109, box b2 [.slice none 0 0] 24, box b1 [.slice ra out.length rc] 24, box b [.slice p19 (W.length - r21.j) (c - r21.j), iv el, iv ec, iv r21.pl, iv r21.pc, iv r21.e] 94, rowOf tkE a c 109 4 W] w_) S188 15 #[false, false, false, false, false, false, false, false, false, false, false, false, false, false, false] Tryd.mixed (by kernel_rfl) (by kernel_rfl) (by kernel_rfl) ?_
 intro w67 S204
 refine WB.mk (S204.sub (.cons_cons _ (.cons_cons _ (.cons_cons _ (.cons_cons _ (.cons_cons _ (.cons_cons _ (List.nil_sublist _)))))))) ?_
 refine WA.take 0 99 (.pointer (some ⟨b1, 0, none⟩)) #[true, false, false, false, false, false, false, false, false, false, false, false, false, false, false] (by kernel_rfl) (by kernel_rfl) (by kernel_rfl) (fun _ _ => by kernel_rfl) (by kernel_rfl) ?_
 refine WA.takeOK 1 #[true, true, false, false, false, false, false, false, false, false, false, false, false, false, false] (by kernel_rfl) (by kernel_rfl) (by kernel_rfl) (by kernel_rfl) (fun w_ S_ => OK.ldBox S_ 3 100 22 0 (.slice ra out.length rc) (by kernel_rfl) rfl (by kernel_rfl)) rfl ?_
 refine WA.take 2 101 (iv ((out.length : Int) - 1)) #[true, true, true, false, false, false, false, false, false, false, false, false, false, false, false] (by kernel_rfl) (by kernel_rfl) (by kernel_rfl) (fun _ _ => by kernel_rfl) (by kernel_rfl) ?_
 refine WA.take 3 102 (.pointer (some ⟨b1, 0, none⟩)) #[true, true, true, true, false, false, false, false, false, false, false, false, false, false, false] (by kernel_rfl) (by kernel_rfl) (by kernel_rfl) (fun _ _ => by kernel_rfl) (by kernel_rfl) ?_
 refine WA.takeOK 4 #[true, true, true, true, true, false, false, false, false, false, false, false, false, false, false] (by kernel_rfl) (by kernel_rfl) (by kernel_rfl) (by kernel_rfl) (fun w_ S_ => OK.ldBox S_ 3 103 22 0 (.slice ra out.length rc) (by kernel_rfl) rfl (by kernel_rfl)) rfl ?_
 refine WA.take 5 104 (iv ((out.length : Int) - 1)) #[true, true, true, true, true, true, false, false, false, false, false, false, false, false, false] (by kernel_rfl) (by kernel_rfl) (by kernel_rfl) (fun _ _ => by kernel_rfl) (by kernel_rfl) ?_
 refine WA.takeOK 6 #[true, true, true, true, true, true, true, false, false, false, false, false, false, false, false] (by kernel_rfl) (by kernel_rfl) (by kernel_rfl) (by kernel_rfl) (fun w_ S_ => OK.index 105 22 5 ra p20 out.length ((out.length : Int) - 1).toNat ((out.length : Int) - 1) (p20.add (((out.length : Int) - 1).toNat * 5)) (by kernel_rfl) (by kernel_rfl) hp22 (by omega) (by omega) rfl) rfl ?_
 refine WA.take 7 106 (.pointer (some ((p20.add (((out.length : Int) - 1).toNat * 5)).add 4))) #[true, true, true, true, true, true, true, true, false, false, false, false, false, false, false] (by kernel_rfl) (by kernel_rfl) (by kernel_rfl) (fun _ _ => by kernel_rfl) (by kernel_rfl) ?_
 refine WA.takeOK 9 #[true, true, true, true, true, true, true, true, false, true, false, false, false, false, false] (by kernel_rfl) (by kernel_rfl) (by kernel_rfl) (by kernel_rfl) (fun w_ S_ => OK.ldBox S_ 0 108 57 0 (.agg #[.string t3.gText, iv (nuV W r11), iv (nuV W r12), .bool (eqT (nxT W r13).gText (⟨#[109, 111, 116, 111, 114, 111, 108, 97]⟩ : ByteArray)), .bool (eqT (nxT W r14).gText (⟨#[115, 105, 103, 110, 101, 100]⟩ : ByteArray)), iv (nuV W r15), iv (nuV W r16), iv (nuV W r17), iv (nuV W r18), iv (nuV W r19)]) (by kernel_rfl) rfl (by kernel_rfl)) rfl ?_
 refine WA.weaken (env' := [(3, .pointer (some ⟨b1, 0, none⟩)), (4, .pointer (some ⟨b2, 0, none⟩)), (100, .slice ra out.length rc), (101, iv ((out.length : Int) - 1)), (106, .pointer (some ((p20.add (((out.length : Int) - 1).toNat * 5)).add 4))), (108, .agg #[.string t3.gText, iv (nuV W r11), iv (nuV W r12), .bool (eqT (nxT W r13).gText (⟨#[109, 111, 116, 111, 114, 111, 108, 97]⟩ : ByteArray)), .bool (eqT (nxT W r14).gText (⟨#[115, 105, 103, 110, 101, 100]⟩ : ByteArray)), iv (nuV W r15), iv (nuV W r16), iv (nuV W r17), iv (nuV W r18), iv (nuV W r19)])]) (by kernel_rfl) ?_
 exact W6 w67 S204

end
end Go.Proofs.YthiklimfffhbaaaDoor

