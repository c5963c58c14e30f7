/- Walks of functions of this seat, printed by a program over the engine. Conditions: as each theorem says. -/
import Derived.Test.YthfpejhonhaggaaGreatDoorZX12
namespace Go.Proofs.YthfpejhonhaggaaGreatDoor
open Go.Eng Go.RowKit
set_option linter.unusedSimpArgs false
set_option linter.unusedVariables false
theorem hb75 : HasBody Tryz.prog 75 := fun _ _ => by kernel_rfl
noncomputable def K75_0 : List Item := adv 10 [] (bodyOf Tryz.f75)
noncomputable def K75_1 : List Item := adv 12 [false] K75_0
noncomputable def K75_2 : List Item := adv 7 [] K75_1
noncomputable def K75_3 : List Item := adv 5 [true] K75_2
noncomputable def K75_4 : List Item := adv 1 [] (popK K75_3)
noncomputable def K75_5 : List Item := adv 2 [] (popK K75_4)
noncomputable def K75_6 : List Item := adv 7 [] (popK K75_5)
noncomputable def K75_7 : List Item := adv 7 [false] K75_2
set_option maxRecDepth 20000 in
set_option maxHeartbeats 20000000 in
theorem grow_any (n : Int) (w : World) (hn : 0 ≤ n ∧ n ≤ 1099511627776) : Ret Tryz.prog 75 #[.slice none 0 0, iv n] w (fun v w' => ∃ a cap, v = .slice a 0 cap ∧ Sep w [rowOf encI a cap 3 1 []] w') := by
 have S0 := Sep.refl w
 refine Ret.named fun R hR => ?_
 refine Ret.of_J (N := 27) [(0, .slice none 0 0), (1, iv n)] Tryz.func75 rfl rfl (Nat.le_of_ble_eq_true (by kernel_rfl)) (by kernel_rfl) ?_
 refine J.run 10 K75_0 [(6, .bool (decide (n < 0))), (0, .slice none 0 0), (1, iv n)] w (by kernel_rfl) ?_
 have fk2 : ¬ (n < 0) := by omega
 refine J.head (.bool false) (congrArg Value.bool (decide_eq_false fk2)) ?_
 refine J.run 12 K75_1 [(14, iv (IntKind.wrap .i64 (n - 0))), (0, .slice none 0 0)] w (by kernel_rfl) ?_
 refine J.head (iv (n - 0)) (congrArg (Value.int .i64) (IntWalk.i64_in _ (by omega))) ?_
 refine J.run 7 K75_2 [(16, .bool (decide ((n - 0) > 0))), (1, iv (n - 0)), (0, .slice none 0 0)] w (by kernel_rfl) ?_
 by_cases fk3 : (n - 0) > 0
 ·skip
  refine J.head (.bool true) (congrArg Value.bool (decide_eq_true fk3)) ?_
  refine J.run 5 K75_3 [(19, iv 0), (17, .slice none 0 0), (1, iv (n - 0)), (0, .slice none 0 0)] w (by kernel_rfl) ?_
  refine J.ok (OK.slice 20 26 1 none 0 0 none (some (iv 0)) 0 0 (by kernel_rfl) (by kernel_rfl) (.inl ⟨rfl, rfl⟩) (.inr ⟨_, _, rfl, rfl⟩) (by first | omega | (simp; omega)) (by first | omega | (simp; omega))) ?_
  refine J.head (.slice none 0 0) (by rw [subA_zero]; try rfl) ?_
  refine J.run 1 K75_4 [(21, iv (n - 0)), (20, .slice none 0 0), (0, .slice none 0 0)] w (by kernel_rfl) ?_
  refine J.appz encI (0 : Int) S0 22 26 3 3 1 .i64 .i64 (n - 0) (n - 0).toNat (iv 0) 8 (by kernel_rfl) (by omega) (by omega) (by kernel_rfl) (by kernel_rfl) (by kernel_rfl) (by kernel_rfl) (by decide) (by rfl) (⟨by omega, by omega⟩) ?_
  intro b1 rc1 w1 S1
  refine J.run 2 K75_5 [(24, iv 0), (22, .slice (some ⟨b1, 0, none⟩) ((List.replicate (n - 0).toNat (0 : Int)).length) rc1)] w1 (by kernel_rfl) ?_
  have := (rowOf_cells (S1.nth 0 rfl)).2.2
  refine J.ok (OK.slice 25 26 1 (some ⟨b1, 0, none⟩) ((List.replicate (n - 0).toNat (0 : Int)).length) rc1 none (some (iv 0)) 0 0 (by kernel_rfl) (by kernel_rfl) (.inl ⟨rfl, rfl⟩) (.inr ⟨_, _, rfl, rfl⟩) (by first | omega | (simp; omega)) (by first | omega | (simp; omega))) ?_
  refine J.head (.slice (some ⟨b1, 0, none⟩) 0 rc1) (by rw [subA_zero]; try rfl) ?_
  refine J.run 7 K75_6 [(4, .slice (some ⟨b1, 0, none⟩) 0 rc1)] w1 (by kernel_rfl) ?_
  refine J.ret Tryz.f75 [.slice (some ⟨b1, 0, none⟩) 0 rc1] Tryz.func75 ⟨by kernel_rfl, trivial⟩ ?_
  refine hR _ _ ?_
  exact ⟨_, _, rfl, (S1.cut 0 rfl (fun _ => rfl) 0 (Nat.zero_le _)).pick 0 rfl⟩
 ·skip
  refine J.head (.bool false) (congrArg Value.bool (decide_eq_false fk3)) ?_
  refine J.run 7 K75_7 [(4, .slice none 0 0)] w (by kernel_rfl) ?_
  refine J.ret Tryz.f75 [.slice none 0 0] Tryz.func75 ⟨by kernel_rfl, trivial⟩ ?_
  refine hR _ _ ?_
  exact ⟨none, 0, rfl, S0.nil.nilRow 3 1⟩

theorem hb40 : HasBody Tryz.prog 40 := fun _ _ => by kernel_rfl
noncomputable def K40_0 : List Item := adv 28 [true] (bodyOf Tryz.f40)
noncomputable def K40_1 : List Item := adv 8 [] (popK (popK K40_0))
noncomputable def K40_2 : List Item := adv 7 [] K40_1
noncomputable def K40_3 : List Item := adv 8 [false] K40_2
noncomputable def K40_4 : List Item := adv 11 [true] K40_3
noncomputable def K40_5 : List Item := adv 8 [] (popK (popK K40_4))
noncomputable def K40_6 : List Item := adv 7 [] K40_5
noncomputable def K40_7 : List Item := adv 8 [false] K40_6
noncomputable def K40_8 : List Item := adv 10 [false] K40_7
noncomputable def K40_9 : List Item := adv 22 [true] (popK K40_8)
noncomputable def K40_10 : List Item := adv 5 [] (popK (popK K40_9))
noncomputable def K40_11 : List Item := adv 8 [] (popK K40_10)
noncomputable def K40_12 : List Item := adv 11 [true] K40_11
noncomputable def K40_13 : List Item := adv 5 [] (popK (popK K40_12))
noncomputable def K40_14 : List Item := adv 8 [] (popK K40_13)
noncomputable def K40_15 : List Item := adv 12 [false] K40_14
set_option maxRecDepth 20000 in
set_option maxHeartbeats 20000000 in
theorem concat2_any (bx : Nat) (la : Option Addr) (na ca : Nat) (xa : List Int) (lb : Option Addr) (nb cb : Nat) (xb : List Int) (w : World) (ha : Ints w la na xa) (hb : Ints w lb nb xb) (hbx : (box bx [.slice la na ca, .slice lb nb cb] 26).holds w) (hsm : na ≤ 1048576 ∧ nb ≤ 1048576) : Ret Tryz.prog 40 #[.slice (some ⟨bx, 0, none⟩) 2 2] w (fun v w' => ∃ a cap, v = .slice a (xa ++ xb).length cap ∧ Sep w [rowOf encI a cap 3 1 (xa ++ xb)] w') := by
 have S0 := Sep.refl w
 refine Ret.named fun R hR => ?_
 refine Ret.of_J (N := 36) [(0, .slice (some ⟨bx, 0, none⟩) 2 2)] Tryz.func40 rfl rfl (Nat.le_of_ble_eq_true (by kernel_rfl)) (by kernel_rfl) ?_
 have hla_ := ha.len_eq
 have hlb_ := hb.len_eq
 refine J.run 28 K40_0 [(11, iv 0), (10, iv 2), (9, .slice (some ⟨bx, 0, none⟩) 2 2), (3, iv 0), (0, .slice (some ⟨bx, 0, none⟩) 2 2)] w (by kernel_rfl) ?_
 refine J.ok (OK.index 13 50 1 (some ⟨bx, 0, none⟩) ⟨bx, 0, none⟩ 2 0 0 ⟨bx, 0, none⟩ (by kernel_rfl) (by kernel_rfl) rfl (by omega) (by omega) (by rfl)) ?_
 refine J.ok (OK.ldRo S0 hbx 14 26 0 (.slice la na ca) (by kernel_rfl) (by kernel_rfl)) ?_
 refine J.run 8 K40_1 [(18, iv (IntKind.wrap .i64 (0 + (na : Int)))), (11, iv 0), (10, iv 2), (9, .slice (some ⟨bx, 0, none⟩) 2 2), (0, .slice (some ⟨bx, 0, none⟩) 2 2)] w (by kernel_rfl) ?_
 refine J.head (iv (0 + (na : Int))) (congrArg (Value.int .i64) (IntWalk.i64_in _ (by omega))) ?_
 refine J.run 7 K40_2 [(20, .bool (decide ((0 + (na : Int)) < 0))), (3, iv (0 + (na : Int))), (11, iv 0), (10, iv 2), (9, .slice (some ⟨bx, 0, none⟩) 2 2), (0, .slice (some ⟨bx, 0, none⟩) 2 2)] w (by kernel_rfl) ?_
 have fk2 : ¬ ((0 + (na : Int)) < 0) := by omega
 refine J.head (.bool false) (congrArg Value.bool (decide_eq_false fk2)) ?_
 refine J.run 8 K40_3 [(11, iv 1), (3, iv (0 + (na : Int))), (10, iv 2), (9, .slice (some ⟨bx, 0, none⟩) 2 2), (0, .slice (some ⟨bx, 0, none⟩) 2 2)] w (by kernel_rfl) ?_
 refine J.run 11 K40_4 [(11, iv 1), (3, iv (0 + (na : Int))), (10, iv 2), (9, .slice (some ⟨bx, 0, none⟩) 2 2), (0, .slice (some ⟨bx, 0, none⟩) 2 2)] w (by kernel_rfl) ?_
 refine J.ok (OK.index 13 50 1 (some ⟨bx, 0, none⟩) ⟨bx, 0, none⟩ 2 1 1 ⟨bx, 1, none⟩ (by kernel_rfl) (by kernel_rfl) rfl (by omega) (by omega) (by rfl)) ?_
 refine J.ok (OK.ldRo S0 hbx 14 26 1 (.slice lb nb cb) (by kernel_rfl) (by kernel_rfl)) ?_
 refine J.run 8 K40_5 [(18, iv (IntKind.wrap .i64 ((0 + (na : Int)) + (nb : Int)))), (11, iv 1), (10, iv 2), (9, .slice (some ⟨bx, 0, none⟩) 2 2), (0, .slice (some ⟨bx, 0, none⟩) 2 2)] w (by kernel_rfl) ?_
 refine J.head (iv ((0 + (na : Int)) + (nb : Int))) (congrArg (Value.int .i64) (IntWalk.i64_in _ (by omega))) ?_
 refine J.run 7 K40_6 [(20, .bool (decide (((0 + (na : Int)) + (nb : Int)) < 0))), (3, iv ((0 + (na : Int)) + (nb : Int))), (11, iv 1), (10, iv 2), (9, .slice (some ⟨bx, 0, none⟩) 2 2), (0, .slice (some ⟨bx, 0, none⟩) 2 2)] w (by kernel_rfl) ?_
 have fk4 : ¬ (((0 + (na : Int)) + (nb : Int)) < 0) := by omega
 refine J.head (.bool false) (congrArg Value.bool (decide_eq_false fk4)) ?_
 refine J.run 8 K40_7 [(11, iv 2), (3, iv ((0 + (na : Int)) + (nb : Int))), (10, iv 2), (9, .slice (some ⟨bx, 0, none⟩) 2 2), (0, .slice (some ⟨bx, 0, none⟩) 2 2)] w (by kernel_rfl) ?_
 refine J.run 10 K40_8 [(23, iv ((0 + (na : Int)) + (nb : Int))), (0, .slice (some ⟨bx, 0, none⟩) 2 2)] w (by kernel_rfl) ?_
 refine J.callF 24 75 #[.slice none 0 0, iv ((0 + (na : Int)) + (nb : Int))] hb75 (by kernel_rfl) (grow_any ((0 + (na : Int)) + (nb : Int)) _ (by omega)) ?_
 rintro _ w1 ⟨ra1, rc1, rfl, T1⟩
 have S1 : Sep w [rowOf encI ra1 rc1 3 1 ([])] w1 := S0.trans T1
 clear T1
 refine J.run 22 K40_9 [(27, iv 0), (26, iv 2), (25, .slice (some ⟨bx, 0, none⟩) 2 2), (6, .slice ra1 0 rc1)] w1 (by kernel_rfl) ?_
 refine J.ok (OK.index 29 50 1 (some ⟨bx, 0, none⟩) ⟨bx, 0, none⟩ 2 0 0 ⟨bx, 0, none⟩ (by kernel_rfl) (by kernel_rfl) rfl (by omega) (by omega) (by rfl)) ?_
 refine J.ok (OK.ldRo S1 hbx 30 26 0 (.slice la na ca) (by kernel_rfl) (by kernel_rfl)) ?_
 refine J.run 5 K40_10 [(32, .slice la na ca), (31, .slice ra1 0 rc1), (27, iv 0), (26, iv 2), (25, .slice (some ⟨bx, 0, none⟩) 2 2)] w1 (by kernel_rfl) ?_
 have hz1 := ha.sep S1
 have := hz1.len_eq
 refine J.appendN encI S1 0 ([]) xa na (by first | omega | (simp; omega)) 33 26 (iv 0) 8 la ca rfl (by kernel_rfl) (by kernel_rfl) (by kernel_rfl) (by kernel_rfl) (by decide) (ha.sep S1).enc (fun h_ => Ones.nil (h_ ▸ hz1)) (fun _ => rfl) (fun _ => rfl) (⟨by first | omega | (simp; omega), by first | omega | (simp; omega)⟩) ?_
 intro ra2 rc2 w2 S2
 replace S2 : Sep w [rowOf encI ra2 rc2 3 1 xa] w2 := S2
 refine J.run 8 K40_11 [(27, iv 1), (6, .slice ra2 xa.length rc2), (26, iv 2), (25, .slice (some ⟨bx, 0, none⟩) 2 2)] w2 (by kernel_rfl) ?_
 refine J.run 11 K40_12 [(27, iv 1), (6, .slice ra2 xa.length rc2), (26, iv 2), (25, .slice (some ⟨bx, 0, none⟩) 2 2)] w2 (by kernel_rfl) ?_
 refine J.ok (OK.index 29 50 1 (some ⟨bx, 0, none⟩) ⟨bx, 0, none⟩ 2 1 1 ⟨bx, 1, none⟩ (by kernel_rfl) (by kernel_rfl) rfl (by omega) (by omega) (by rfl)) ?_
 refine J.ok (OK.ldRo S2 hbx 30 26 1 (.slice lb nb cb) (by kernel_rfl) (by kernel_rfl)) ?_
 refine J.run 5 K40_13 [(32, .slice lb nb cb), (31, .slice ra2 xa.length rc2), (27, iv 1), (26, iv 2), (25, .slice (some ⟨bx, 0, none⟩) 2 2)] w2 (by kernel_rfl) ?_
 have hz2 := hb.sep S2
 have := hz2.len_eq
 refine J.appendN encI S2 0 xa xb nb (by first | omega | (simp; omega)) 33 26 (iv 0) 8 lb cb rfl (by kernel_rfl) (by kernel_rfl) (by kernel_rfl) (by kernel_rfl) (by decide) (hb.sep S2).enc (fun h_ => Ones.nil (h_ ▸ hz2)) (fun _ => rfl) (fun _ => rfl) (⟨by first | omega | (simp; omega), by first | omega | (simp; omega)⟩) ?_
 intro ra3 rc3 w3 S3
 replace S3 : Sep w [rowOf encI ra3 rc3 3 1 (xa ++ xb)] w3 := S3
 refine J.run 8 K40_14 [(27, iv 2), (6, .slice ra3 ((xa ++ xb).length) rc3), (26, iv 2), (25, .slice (some ⟨bx, 0, none⟩) 2 2)] w3 (by kernel_rfl) ?_
 refine J.run 12 K40_15 [(2, .slice ra3 ((xa ++ xb).length) rc3)] w3 (by kernel_rfl) ?_
 refine J.ret Tryz.f40 [.slice ra3 ((xa ++ xb).length) rc3] Tryz.func40 ⟨by kernel_rfl, trivial⟩ ?_
 refine hR _ _ ?_
 exact ⟨_, _, rfl, S3.pick 0 rfl⟩

theorem hb8 : HasBody Tryz.prog 8 := fun _ _ => by kernel_rfl
noncomputable def K8_0 : List Item := adv 2 [] (bodyOf Tryz.f8)
noncomputable def K8_1 : List Item := adv 6 [] (popK K8_0)
noncomputable def K8_2 : List Item := adv 3 [] (popK K8_1)
noncomputable def K8_3 : List Item := adv 42 [true] K8_2
noncomputable def K8_4 : List Item := adv 1 [] K8_2
noncomputable def K8_5 : List Item := adv 4 [] (popK K8_4)
noncomputable def K8_6 : List Item := adv 36 [true] K8_5
noncomputable def K8_7 : List Item := adv 1 [] K8_5
noncomputable def K8_8 : List Item := adv 4 [] (popK K8_7)
noncomputable def K8_9 : List Item := adv 30 [true] K8_8
noncomputable def K8_10 : List Item := adv 1 [] K8_8
noncomputable def K8_11 : List Item := adv 4 [] (popK K8_10)
noncomputable def K8_12 : List Item := adv 24 [true] K8_11
noncomputable def K8_13 : List Item := adv 1 [] K8_11
noncomputable def K8_14 : List Item := adv 3 [] (popK K8_13)
noncomputable def K8_15 : List Item := adv 19 [true] K8_14
noncomputable def K8_16 : List Item := adv 1 [] K8_14
noncomputable def K8_17 : List Item := adv 3 [] (popK K8_16)
noncomputable def K8_18 : List Item := adv 14 [true] K8_17
noncomputable def K8_19 : List Item := adv 1 [] K8_17
noncomputable def K8_20 : List Item := adv 2 [] (popK K8_19)
noncomputable def K8_21 : List Item := adv 4 [] (popK K8_20)
noncomputable def K8_22 : List Item := adv 4 [false] K8_21
noncomputable def K8_23 : List Item := adv 5 [] (popK (popK K8_22))
noncomputable def K8_24 : List Item := adv 1 [] (popK K8_23)
noncomputable def K8_25 : List Item := adv 1 [] (popK K8_24)
noncomputable def K8_26 : List Item := adv 17 [true] K8_25
noncomputable def K8_27 : List Item := adv 1 [] K8_25
noncomputable def K8_28 : List Item := adv 1 [] (popK K8_27)
noncomputable def K8_29 : List Item := adv 2 [] (popK K8_28)
noncomputable def K8_30 : List Item := adv 11 [true] K8_29
noncomputable def K8_31 : List Item := adv 1 [] K8_29
noncomputable def K8_32 : List Item := adv 1 [] (popK K8_31)
noncomputable def K8_33 : List Item := adv 2 [] (popK K8_32)
noncomputable def K8_34 : List Item := adv 5 [true] K8_33
noncomputable def K8_35 : List Item := adv 6 [false] K8_33
noncomputable def K8_36 : List Item := adv 1 [] (popK K8_35)
noncomputable def K8_37 : List Item := adv 1 [] (popK K8_36)
noncomputable def K8_38 : List Item := adv 5 [true] K8_37
noncomputable def K8_39 : List Item := adv 6 [false] K8_37
noncomputable def K8_40 : List Item := adv 1 [] (popK K8_39)
noncomputable def K8_41 : List Item := adv 1 [] (popK K8_40)
noncomputable def K8_42 : List Item := adv 16 [true] (popK (popK K8_41))
noncomputable def K8_43 : List Item := adv 8 [] (popK (popK K8_42))
noncomputable def K8_44 : List Item := adv 10 [true] K8_43
noncomputable def K8_45 : List Item := adv 2 [] K8_43
noncomputable def K8_46 : List Item := adv 2 [] (popK K8_45)
noncomputable def K8_47 : List Item := adv 5 [true] K8_46
noncomputable def K8_48 : List Item := adv 8 [false] K8_46
noncomputable def K8_49 : List Item := adv 11 [true] K8_48
noncomputable def K8_50 : List Item := adv 8 [] (popK (popK K8_49))
noncomputable def K8_51 : List Item := adv 10 [true] K8_50
noncomputable def K8_52 : List Item := adv 2 [] K8_50
noncomputable def K8_53 : List Item := adv 2 [] (popK K8_52)
noncomputable def K8_54 : List Item := adv 5 [true] K8_53
noncomputable def K8_55 : List Item := adv 8 [false] K8_53
noncomputable def K8_56 : List Item := adv 11 [true] K8_55
noncomputable def K8_57 : List Item := adv 8 [] (popK (popK K8_56))
noncomputable def K8_58 : List Item := adv 10 [true] K8_57
noncomputable def K8_59 : List Item := adv 2 [] K8_57
noncomputable def K8_60 : List Item := adv 2 [] (popK K8_59)
noncomputable def K8_61 : List Item := adv 5 [true] K8_60
noncomputable def K8_62 : List Item := adv 8 [false] K8_60
noncomputable def K8_63 : List Item := adv 10 [false] K8_62
noncomputable def K8_64 : List Item := adv 6 [] (popK (popK K8_63))
noncomputable def K8_65 : List Item := adv 1 [] (popK K8_64)
noncomputable def K8_66 : List Item := adv 5 [] (popK (popK (popK K8_65)))
noncomputable def K8_67 : List Item := adv 5 [] K8_66
noncomputable def K8_68 : List Item := adv 6 [true] K8_67
noncomputable def K8_69 : List Item := adv 7 [] (popK (popK K8_68))
noncomputable def K8_70 : List Item := adv 1 [] (popK (popK K8_69))
noncomputable def K8_71 : List Item := adv 5 [true] K8_70
noncomputable def K8_72 : List Item := adv 5 [false] K8_70
noncomputable def K8_73 : List Item := adv 4 [] (popK (popK K8_72))
noncomputable def K8_74 : List Item := adv 5 [false] K8_67
noncomputable def K8_75 : List Item := adv 3 [] (popK (popK K8_74))
noncomputable def K8_76 : List Item := adv 5 [true] K8_21
set_option maxRecDepth 20000 in
set_option maxHeartbeats 20000000 in
theorem pvalid_any (p : Prg) (w : World) (hp : prgQ w p) : Ret Tryz.prog 8 #[.agg (prgA p)] w (fun v w' => v = .bool (validP p) ∧ Sep w [] w') := by
 have S0 := Sep.refl w
 refine Ret.named fun R hR => ?_
 refine Ret.of_J (N := 117) [(0, .agg (prgA p))] Tryz.func8 rfl rfl (Nat.le_of_ble_eq_true (by kernel_rfl)) (by kernel_rfl) ?_
 obtain ⟨q1, q2, q3, q4, q5, q6, q7, q8, q9, q10, q11, q12, q13, q14, q15, q16, q17, q18, q19, q20, q21, q22, q23, q24, q25, _⟩ := id hp
 have ql1 := q2.len_eq
 have ql2 := q5.len_eq
 have ql3 := q8.len_eq
 have ql4 := q11.len_eq
 have ql5 := q15.len_eq
 have ql6 := q18.len_eq
 have ql7 := q21.len_eq
 have ql8 := q24.len_eq
 have hrep : (List.replicate (p.gCells).toNat false).length = p.gCells.toNat := List.length_replicate
 have hcat : (p.gInputs_l ++ p.gStates_l).length = p.gInputs_l.length + p.gStates_l.length := List.length_append
 refine J.run 2 K8_0 [(0, .agg (prgA p))] w (by kernel_rfl) ?_
 refine J.new S0 1 (prgC p) 28 (by kernel_rfl) ?_
 intro b1 w1 S1
 refine J.run 6 K8_1 [(9, pv b1), (1, pv b1)] w1 (by kernel_rfl) ?_
 refine J.ok (OK.ldBox S1 0 10 22 0 (.slice p.gCode_a p.gCode_n p.gCode_c) (by kernel_rfl) rfl (by kernel_rfl)) ?_
 refine J.run 3 K8_2 [(13, .bool (decide ((p.gCode_n : Int) > 4000))), (1, pv b1)] w1 (by kernel_rfl) ?_
 by_cases fk1 : (p.gCode_n : Int) > 4000
 ·skip
  refine J.head (.bool true) (congrArg Value.bool (decide_eq_true fk1)) ?_
  refine J.run 42 K8_3 [(2, .bool false)] w1 (by kernel_rfl) ?_
  refine J.ret Tryz.f8 [.bool false] Tryz.func8 ⟨by kernel_rfl, trivial⟩ ?_
  refine hR _ _ ?_
  exact ⟨congrArg Value.bool (validP_no (.inl (by omega))).symm, S1.nil⟩
 ·skip
  refine J.head (.bool false) (congrArg Value.bool (decide_eq_false fk1)) ?_
  refine J.run 1 K8_4 [(14, .pointer (some ⟨b1, 1, none⟩)), (13, .bool false), (1, pv b1)] w1 (by kernel_rfl) ?_
  refine J.ok (OK.ldBox S1 0 15 23 1 (.slice p.gTypes_a p.gTypes_n p.gTypes_c) (by kernel_rfl) rfl (by kernel_rfl)) ?_
  refine J.run 4 K8_5 [(19, .bool (decide ((p.gTypes_n : Int) > 100))), (1, pv b1)] w1 (by kernel_rfl) ?_
  by_cases fk2 : (p.gTypes_n : Int) > 100
  ·skip
   refine J.head (.bool true) (congrArg Value.bool (decide_eq_true fk2)) ?_
   refine J.run 36 K8_6 [(2, .bool false)] w1 (by kernel_rfl) ?_
   refine J.ret Tryz.f8 [.bool false] Tryz.func8 ⟨by kernel_rfl, trivial⟩ ?_
   refine hR _ _ ?_
   exact ⟨congrArg Value.bool (validP_no (.inl (by omega))).symm, S1.nil⟩
  ·skip
   refine J.head (.bool false) (congrArg Value.bool (decide_eq_false fk2)) ?_
   refine J.run 1 K8_7 [(20, .pointer (some ⟨b1, 2, none⟩)), (19, .bool false), (1, pv b1)] w1 (by kernel_rfl) ?_
   refine J.ok (OK.ldBox S1 0 21 24 2 (.slice p.gCurves_a p.gCurves_n p.gCurves_c) (by kernel_rfl) rfl (by kernel_rfl)) ?_
   refine J.run 4 K8_8 [(25, .bool (decide ((p.gCurves_n : Int) > 100))), (1, pv b1)] w1 (by kernel_rfl) ?_
   by_cases fk3 : (p.gCurves_n : Int) > 100
   ·skip
    refine J.head (.bool true) (congrArg Value.bool (decide_eq_true fk3)) ?_
    refine J.run 30 K8_9 [(2, .bool false)] w1 (by kernel_rfl) ?_
    refine J.ret Tryz.f8 [.bool false] Tryz.func8 ⟨by kernel_rfl, trivial⟩ ?_
    refine hR _ _ ?_
    exact ⟨congrArg Value.bool (validP_no (.inl (by omega))).symm, S1.nil⟩
   ·skip
    refine J.head (.bool false) (congrArg Value.bool (decide_eq_false fk3)) ?_
    refine J.run 1 K8_10 [(26, .pointer (some ⟨b1, 3, none⟩)), (25, .bool false), (1, pv b1)] w1 (by kernel_rfl) ?_
    refine J.ok (OK.ldBox S1 0 27 25 3 (.slice p.gMaps_a p.gMaps_n p.gMaps_c) (by kernel_rfl) rfl (by kernel_rfl)) ?_
    refine J.run 4 K8_11 [(31, .bool (decide ((p.gMaps_n : Int) > 100))), (1, pv b1)] w1 (by kernel_rfl) ?_
    by_cases fk4 : (p.gMaps_n : Int) > 100
    ·skip
     refine J.head (.bool true) (congrArg Value.bool (decide_eq_true fk4)) ?_
     refine J.run 24 K8_12 [(2, .bool false)] w1 (by kernel_rfl) ?_
     refine J.ret Tryz.f8 [.bool false] Tryz.func8 ⟨by kernel_rfl, trivial⟩ ?_
     refine hR _ _ ?_
     exact ⟨congrArg Value.bool (validP_no (.inl (by omega))).symm, S1.nil⟩
    ·skip
     refine J.head (.bool false) (congrArg Value.bool (decide_eq_false fk4)) ?_
     refine J.run 1 K8_13 [(32, .pointer (some ⟨b1, 4, none⟩)), (31, .bool false), (1, pv b1)] w1 (by kernel_rfl) ?_
     refine J.ok (OK.ldBox S1 0 33 3 4 (iv p.gCells) (by kernel_rfl) rfl (by kernel_rfl)) ?_
     refine J.run 3 K8_14 [(36, .bool (decide (p.gCells < 0))), (1, pv b1)] w1 (by kernel_rfl) ?_
     by_cases fk5 : p.gCells < 0
     ·skip
      refine J.head (.bool true) (congrArg Value.bool (decide_eq_true fk5)) ?_
      refine J.run 19 K8_15 [(2, .bool false)] w1 (by kernel_rfl) ?_
      refine J.ret Tryz.f8 [.bool false] Tryz.func8 ⟨by kernel_rfl, trivial⟩ ?_
      refine hR _ _ ?_
      exact ⟨congrArg Value.bool (validP_no (.inl (by omega))).symm, S1.nil⟩
     ·skip
      refine J.head (.bool false) (congrArg Value.bool (decide_eq_false fk5)) ?_
      refine J.run 1 K8_16 [(37, .pointer (some ⟨b1, 4, none⟩)), (36, .bool false), (1, pv b1)] w1 (by kernel_rfl) ?_
      refine J.ok (OK.ldBox S1 0 38 3 4 (iv p.gCells) (by kernel_rfl) rfl (by kernel_rfl)) ?_
      refine J.run 3 K8_17 [(41, .bool (decide (p.gCells > 1000))), (1, pv b1)] w1 (by kernel_rfl) ?_
      by_cases fk6 : p.gCells > 1000
      ·skip
       refine J.head (.bool true) (congrArg Value.bool (decide_eq_true fk6)) ?_
       refine J.run 14 K8_18 [(2, .bool false)] w1 (by kernel_rfl) ?_
       refine J.ret Tryz.f8 [.bool false] Tryz.func8 ⟨by kernel_rfl, trivial⟩ ?_
       refine hR _ _ ?_
       exact ⟨congrArg Value.bool (validP_no (.inl (by omega))).symm, S1.nil⟩
      ·skip
       refine J.head (.bool false) (congrArg Value.bool (decide_eq_false fk6)) ?_
       refine J.run 1 K8_19 [(42, .pointer (some ⟨b1, 8, none⟩)), (41, .bool false), (1, pv b1)] w1 (by kernel_rfl) ?_
       refine J.ok (OK.ldBox S1 0 43 26 8 (.slice p.gInitial_a p.gInitial_n p.gInitial_c) (by kernel_rfl) rfl (by kernel_rfl)) ?_
       refine J.run 2 K8_20 [(45, .pointer (some ⟨b1, 6, none⟩)), (44, iv (p.gInitial_n : Int)), (41, .bool false), (1, pv b1)] w1 (by kernel_rfl) ?_
       refine J.ok (OK.ldBox S1 0 46 26 6 (.slice p.gStates_a p.gStates_n p.gStates_c) (by kernel_rfl) rfl (by kernel_rfl)) ?_
       refine J.run 4 K8_21 [(49, .bool ((p.gInitial_n : Int) != (p.gStates_n : Int))), (1, pv b1)] w1 (by kernel_rfl) ?_
       by_cases fk7 : (p.gInitial_n : Int) = (p.gStates_n : Int)
       ·skip
        refine J.head (.bool false) (congrArg Value.bool (bne_eq_false_iff_eq.2 fk7)) ?_
        refine J.run 4 K8_22 [(1, pv b1)] w1 (by kernel_rfl) ?_
        refine J.new S1 3 [.nilFunc] 67 (by kernel_rfl) ?_
        intro b2 w2 S2
        refine J.stBox S2 0 67 0 (.func (.func 27) #[] #[]) [.func (.func 27) #[] #[]] [box b2 [.func (.func 27) #[] #[]] 67, box b1 (prgC p) 28] (by kernel_rfl) rfl (by kernel_rfl) (by kernel_rfl) rfl ?_
        intro w3 S3
        refine J.run 5 K8_23 [(50, .pointer (some ⟨b1, 1, none⟩)), (3, pv b2), (1, pv b1)] w3 (by kernel_rfl) ?_
        refine J.ok (OK.ldBox S3 1 51 23 1 (.slice p.gTypes_a p.gTypes_n p.gTypes_c) (by kernel_rfl) rfl (by kernel_rfl)) ?_
        refine J.run 1 K8_24 [(52, .func (.func 29) #[] #[pv b2]), (51, .slice p.gTypes_a p.gTypes_n p.gTypes_c), (3, pv b2), (1, pv b1)] w3 (by kernel_rfl) ?_
        refine J.callF 53 28 #[.slice p.gTypes_a p.gTypes_n p.gTypes_c, .func (.func 29) #[] #[pv b2]] hb28 (by kernel_rfl) (containsFX1 p.gTypes_a p.gTypes_n p.gTypes_c p.gTypes_l 29 (pv b2) (fun x => !fixB x) _ (q5.sep S3) (by first | omega | (simp; omega)) hb29 (fun i_ w_ hi_ S_ => val2_any _ b2 w_ (fxdQ_sep (fxdQ_sep (getD_Q q6 fx0 (n := i_) hi_) S3) S_) (box_keep (S3.nth 0 rfl) S_))) ?_
        rintro _ w4 ⟨rfl, T1⟩
        have S4 : Sep w [box b2 [.func (.func 27) #[] #[]] 67, box b1 (prgC p) 28] w4 := S3.trans T1
        clear T1 S3
        refine J.run 1 K8_25 [(54, .bool (List.any p.gTypes_l (fun x => !fixB x))), (3, pv b2), (1, pv b1)] w4 (by kernel_rfl) ?_
        rcases Bool.eq_false_or_eq_true (List.any p.gTypes_l (fun x => !fixB x)) with fk8 | fk8
        ·skip
         refine J.head (.bool true) (congrArg Value.bool fk8) ?_
         refine J.run 17 K8_26 [(2, .bool false)] w4 (by kernel_rfl) ?_
         refine J.ret Tryz.f8 [.bool false] Tryz.func8 ⟨by kernel_rfl, trivial⟩ ?_
         refine hR _ _ ?_
         exact ⟨congrArg Value.bool (validP_no (.inr (.inl (any_true_all fk8)))).symm, S4.nil⟩
        ·skip
         refine J.head (.bool false) (congrArg Value.bool fk8) ?_
         refine J.run 1 K8_27 [(55, .pointer (some ⟨b1, 2, none⟩)), (54, .bool false), (3, pv b2), (1, pv b1)] w4 (by kernel_rfl) ?_
         refine J.ok (OK.ldBox S4 1 56 24 2 (.slice p.gCurves_a p.gCurves_n p.gCurves_c) (by kernel_rfl) rfl (by kernel_rfl)) ?_
         refine J.run 1 K8_28 [(57, .func (.func 31) #[] #[pv b2]), (56, .slice p.gCurves_a p.gCurves_n p.gCurves_c), (54, .bool false), (3, pv b2), (1, pv b1)] w4 (by kernel_rfl) ?_
         refine J.callF 58 19 #[.slice p.gCurves_a p.gCurves_n p.gCurves_c, .func (.func 31) #[] #[pv b2]] hb19 (by kernel_rfl) (containsCV1 p.gCurves_a p.gCurves_n p.gCurves_c p.gCurves_l 31 (pv b2) (fun x => !validV x) _ (q8.sep S4) (by first | omega | (simp; omega)) hb31 (fun i_ w_ hi_ S_ => val3_any _ b2 w_ (crvQ_sep (crvQ_sep (getD_Q q9 (⟨none, 0, 0, [], none, 0, 0, []⟩ : Crv) (n := i_) hi_) S4) S_) (box_keep (S4.nth 0 rfl) S_))) ?_
         rintro _ w5 ⟨rfl, T2⟩
         have S5 : Sep w [box b2 [.func (.func 27) #[] #[]] 67, box b1 (prgC p) 28] w5 := S4.trans T2
         clear T2 S4
         refine J.run 2 K8_29 [(60, .bool (List.any p.gCurves_l (fun x => !validV x))), (3, pv b2), (1, pv b1)] w5 (by kernel_rfl) ?_
         rcases Bool.eq_false_or_eq_true (List.any p.gCurves_l (fun x => !validV x)) with fk9 | fk9
         ·skip
          refine J.head (.bool true) (congrArg Value.bool fk9) ?_
          refine J.run 11 K8_30 [(2, .bool false)] w5 (by kernel_rfl) ?_
          refine J.ret Tryz.f8 [.bool false] Tryz.func8 ⟨by kernel_rfl, trivial⟩ ?_
          refine hR _ _ ?_
          exact ⟨congrArg Value.bool (validP_no (.inr (.inr (.inl (any_true_all fk9))))).symm, S5.nil⟩
         ·skip
          refine J.head (.bool false) (congrArg Value.bool fk9) ?_
          refine J.run 1 K8_31 [(61, .pointer (some ⟨b1, 3, none⟩)), (60, .bool false), (3, pv b2), (1, pv b1)] w5 (by kernel_rfl) ?_
          refine J.ok (OK.ldBox S5 1 62 25 3 (.slice p.gMaps_a p.gMaps_n p.gMaps_c) (by kernel_rfl) rfl (by kernel_rfl)) ?_
          refine J.run 1 K8_32 [(63, .func (.func 33) #[] #[pv b2]), (62, .slice p.gMaps_a p.gMaps_n p.gMaps_c), (60, .bool false), (3, pv b2), (1, pv b1)] w5 (by kernel_rfl) ?_
          refine J.callF 64 17 #[.slice p.gMaps_a p.gMaps_n p.gMaps_c, .func (.func 33) #[] #[pv b2]] hb17 (by kernel_rfl) (containsMP1 p.gMaps_a p.gMaps_n p.gMaps_c p.gMaps_l 33 (pv b2) (fun x => !validM x) _ (q11.sep S5) (by first | omega | (simp; omega)) hb33 (fun i_ w_ hi_ S_ => val4_any _ b2 w_ (mpQ_sep (mpQ_sep (getD_Q q12 (⟨none, 0, 0, [], none, 0, 0, [], none, 0, 0, []⟩ : Mp) (n := i_) hi_) S5) S_) (box_keep (S5.nth 0 rfl) S_))) ?_
          rintro _ w6 ⟨rfl, T3⟩
          have S6 : Sep w [box b2 [.func (.func 27) #[] #[]] 67, box b1 (prgC p) 28] w6 := S5.trans T3
          clear T3 S5
          refine J.run 2 K8_33 [(65, .bool (List.any p.gMaps_l (fun x => !validM x))), (3, pv b2), (1, pv b1)] w6 (by kernel_rfl) ?_
          rcases Bool.eq_false_or_eq_true (List.any p.gMaps_l (fun x => !validM x)) with fk10 | fk10
          ·skip
           refine J.head (.bool true) (congrArg Value.bool fk10) ?_
           refine J.run 5 K8_34 [(2, .bool false)] w6 (by kernel_rfl) ?_
           refine J.ret Tryz.f8 [.bool false] Tryz.func8 ⟨by kernel_rfl, trivial⟩ ?_
           refine hR _ _ ?_
           exact ⟨congrArg Value.bool (validP_no (.inr (.inr (.inr (.inl (any_true_all fk10)))))).symm, S6.nil⟩
          ·skip
           refine J.head (.bool false) (congrArg Value.bool fk10) ?_
           refine J.run 6 K8_35 [(66, pv b1), (3, pv b2), (1, pv b1)] w6 (by kernel_rfl) ?_
           refine J.ok (OK.ldBox S6 1 67 22 0 (.slice p.gCode_a p.gCode_n p.gCode_c) (by kernel_rfl) rfl (by kernel_rfl)) ?_
           refine J.run 1 K8_36 [(68, .func (.func 36) #[] #[pv b2, pv b1]), (67, .slice p.gCode_a p.gCode_n p.gCode_c), (1, pv b1)] w6 (by kernel_rfl) ?_
           refine J.callF 69 35 #[.slice p.gCode_a p.gCode_n p.gCode_c, .func (.func 36) #[] #[pv b2, pv b1]] hb35 (by kernel_rfl) (containsIN2 p.gCode_a p.gCode_n p.gCode_c p.gCode_l 36 (pv b2) (pv b1) (fun x => !fitsI p x) _ (q2.sep S6) (by first | omega | (simp; omega)) hb36 (fun i_ w_ hi_ S_ => val5_any p _ b2 b1 w_ (prgQ_sep (prgQ_sep hp S6) S_) (insQ_sep (insQ_sep (getD_Q q3 ins0 (n := i_) hi_) S6) S_) (box_keep (S6.nth 0 rfl) S_) (box_keep (S6.nth 1 rfl) S_))) ?_
           rintro _ w7 ⟨rfl, T4⟩
           have S7 : Sep w [box b2 [.func (.func 27) #[] #[]] 67, box b1 (prgC p) 28] w7 := S6.trans T4
           clear T4 S6
           refine J.run 1 K8_37 [(69, .bool (List.any p.gCode_l (fun x => !fitsI p x))), (1, pv b1)] w7 (by kernel_rfl) ?_
           rcases Bool.eq_false_or_eq_true (List.any p.gCode_l (fun x => !fitsI p x)) with fk11 | fk11
           ·skip
            refine J.head (.bool true) (congrArg Value.bool fk11) ?_
            refine J.run 5 K8_38 [(2, .bool false)] w7 (by kernel_rfl) ?_
            refine J.ret Tryz.f8 [.bool false] Tryz.func8 ⟨by kernel_rfl, trivial⟩ ?_
            refine hR _ _ ?_
            exact ⟨congrArg Value.bool (validP_no (.inr (.inr (.inr (.inr (.inl (any_true_all fk11))))))).symm, S7.nil⟩
           ·skip
            refine J.head (.bool false) (congrArg Value.bool fk11) ?_
            refine J.run 6 K8_39 [(70, .pointer (some ⟨b1, 5, none⟩)), (1, pv b1)] w7 (by kernel_rfl) ?_
            refine J.ok (OK.ldBox S7 1 71 26 5 (.slice p.gInputs_a p.gInputs_n p.gInputs_c) (by kernel_rfl) rfl (by kernel_rfl)) ?_
            refine J.run 1 K8_40 [(72, .pointer (some ⟨b1, 7, none⟩)), (71, .slice p.gInputs_a p.gInputs_n p.gInputs_c), (1, pv b1)] w7 (by kernel_rfl) ?_
            refine J.ok (OK.ldBox S7 1 73 26 7 (.slice p.gOutputs_a p.gOutputs_n p.gOutputs_c) (by kernel_rfl) rfl (by kernel_rfl)) ?_
            refine J.run 1 K8_41 [(74, .pointer (some ⟨b1, 6, none⟩)), (73, .slice p.gOutputs_a p.gOutputs_n p.gOutputs_c), (71, .slice p.gInputs_a p.gInputs_n p.gInputs_c), (1, pv b1)] w7 (by kernel_rfl) ?_
            refine J.ok (OK.ldBox S7 1 75 26 6 (.slice p.gStates_a p.gStates_n p.gStates_c) (by kernel_rfl) rfl (by kernel_rfl)) ?_
            refine J.newSlice S7 76 3 [.slice p.gInputs_a p.gInputs_n p.gInputs_c, .slice p.gOutputs_a p.gOutputs_n p.gOutputs_c, .slice p.gStates_a p.gStates_n p.gStates_c] 26 (by kernel_rfl) ?_
            intro b3 w8 S8
            refine J.run 16 K8_42 [(78, iv 0), (77, iv 3), (76, .slice (some ⟨b3, 0, none⟩) 3 3), (1, pv b1)] w8 (by kernel_rfl) ?_
            refine J.ok (OK.index 80 50 1 (some ⟨b3, 0, none⟩) ⟨b3, 0, none⟩ 3 0 0 ⟨b3, 0, none⟩ (by kernel_rfl) (by kernel_rfl) rfl (by omega) (by omega) (by rfl)) ?_
            refine J.ok (OK.ldBox S8 0 81 26 0 (.slice p.gInputs_a p.gInputs_n p.gInputs_c) (by kernel_rfl) rfl (by kernel_rfl)) ?_
            refine J.run 8 K8_43 [(85, .bool (decide ((p.gInputs_n : Int) > 1000))), (5, .slice p.gInputs_a p.gInputs_n p.gInputs_c), (78, iv 0), (77, iv 3), (76, .slice (some ⟨b3, 0, none⟩) 3 3), (1, pv b1)] w8 (by kernel_rfl) ?_
            by_cases fk12 : (p.gInputs_n : Int) > 1000
            ·skip
             refine J.head (.bool true) (congrArg Value.bool (decide_eq_true fk12)) ?_
             refine J.run 10 K8_44 [(2, .bool false)] w8 (by kernel_rfl) ?_
             refine J.ret Tryz.f8 [.bool false] Tryz.func8 ⟨by kernel_rfl, trivial⟩ ?_
             refine hR _ _ ?_
             exact ⟨congrArg Value.bool (validP_no (.inr (.inr (.inr (.inr (.inr (.inl (cellsL_long (by omega))))))))).symm, S8.nil⟩
            ·skip
             refine J.head (.bool false) (congrArg Value.bool (decide_eq_false fk12)) ?_
             refine J.run 2 K8_45 [(87, .func (.func 39) #[] #[pv b1]), (86, .slice p.gInputs_a p.gInputs_n p.gInputs_c), (85, .bool false), (78, iv 0), (77, iv 3), (76, .slice (some ⟨b3, 0, none⟩) 3 3), (1, pv b1)] w8 (by kernel_rfl) ?_
             refine J.callF 88 38 #[.slice p.gInputs_a p.gInputs_n p.gInputs_c, .func (.func 39) #[] #[pv b1]] hb38 (by kernel_rfl) (containsI1 p.gInputs_a p.gInputs_n p.gInputs_c p.gInputs_l 39 (pv b1) (fun c => !(decide (0 ≤ c) && decide (c < p.gCells))) _ (q15.sep S8) (by first | omega | (simp; omega)) hb39 (fun i_ w_ hi_ S_ => val6_any p _ b1 w_ (box_keep (S8.nth 2 rfl) S_))) ?_
             rintro _ w9 ⟨rfl, T5⟩
             have S9 : Sep w [box b3 [.slice p.gInputs_a p.gInputs_n p.gInputs_c, .slice p.gOutputs_a p.gOutputs_n p.gOutputs_c, .slice p.gStates_a p.gStates_n p.gStates_c] 26, box b2 [.func (.func 27) #[] #[]] 67, box b1 (prgC p) 28] w9 := S8.trans T5
             clear T5 S8
             refine J.run 2 K8_46 [(89, .bool (List.any p.gInputs_l (fun c => !(decide (0 ≤ c) && decide (c < p.gCells))))), (78, iv 0), (77, iv 3), (76, .slice (some ⟨b3, 0, none⟩) 3 3), (1, pv b1)] w9 (by kernel_rfl) ?_
             rcases Bool.eq_false_or_eq_true (List.any p.gInputs_l (fun c => !(decide (0 ≤ c) && decide (c < p.gCells)))) with fk13 | fk13
             ·skip
              refine J.head (.bool true) (congrArg Value.bool fk13) ?_
              refine J.run 5 K8_47 [(2, .bool false)] w9 (by kernel_rfl) ?_
              refine J.ret Tryz.f8 [.bool false] Tryz.func8 ⟨by kernel_rfl, trivial⟩ ?_
              refine hR _ _ ?_
              exact ⟨congrArg Value.bool (validP_no (.inr (.inr (.inr (.inr (.inr (.inl (cellsL_any fk13)))))))).symm, S9.nil⟩
             ·skip
              refine J.head (.bool false) (congrArg Value.bool fk13) ?_
              refine J.run 8 K8_48 [(78, iv 1), (77, iv 3), (76, .slice (some ⟨b3, 0, none⟩) 3 3), (1, pv b1)] w9 (by kernel_rfl) ?_
              refine J.run 11 K8_49 [(78, iv 1), (77, iv 3), (76, .slice (some ⟨b3, 0, none⟩) 3 3), (1, pv b1)] w9 (by kernel_rfl) ?_
              refine J.ok (OK.index 80 50 1 (some ⟨b3, 0, none⟩) ⟨b3, 0, none⟩ 3 1 1 ⟨b3, 1, none⟩ (by kernel_rfl) (by kernel_rfl) rfl (by omega) (by omega) (by rfl)) ?_
              refine J.ok (OK.ldBox S9 0 81 26 1 (.slice p.gOutputs_a p.gOutputs_n p.gOutputs_c) (by kernel_rfl) rfl (by kernel_rfl)) ?_
              refine J.run 8 K8_50 [(85, .bool (decide ((p.gOutputs_n : Int) > 1000))), (5, .slice p.gOutputs_a p.gOutputs_n p.gOutputs_c), (78, iv 1), (77, iv 3), (76, .slice (some ⟨b3, 0, none⟩) 3 3), (1, pv b1)] w9 (by kernel_rfl) ?_
              by_cases fk14 : (p.gOutputs_n : Int) > 1000
              ·skip
               refine J.head (.bool true) (congrArg Value.bool (decide_eq_true fk14)) ?_
               refine J.run 10 K8_51 [(2, .bool false)] w9 (by kernel_rfl) ?_
               refine J.ret Tryz.f8 [.bool false] Tryz.func8 ⟨by kernel_rfl, trivial⟩ ?_
               refine hR _ _ ?_
               exact ⟨congrArg Value.bool (validP_no (.inr (.inr (.inr (.inr (.inr (.inr (.inl (cellsL_long (by omega)))))))))).symm, S9.nil⟩
              ·skip
               refine J.head (.bool false) (congrArg Value.bool (decide_eq_false fk14)) ?_
               refine J.run 2 K8_52 [(87, .func (.func 39) #[] #[pv b1]), (86, .slice p.gOutputs_a p.gOutputs_n p.gOutputs_c), (85, .bool false), (78, iv 1), (77, iv 3), (76, .slice (some ⟨b3, 0, none⟩) 3 3), (1, pv b1)] w9 (by kernel_rfl) ?_
               refine J.callF 88 38 #[.slice p.gOutputs_a p.gOutputs_n p.gOutputs_c, .func (.func 39) #[] #[pv b1]] hb38 (by kernel_rfl) (containsI1 p.gOutputs_a p.gOutputs_n p.gOutputs_c p.gOutputs_l 39 (pv b1) (fun c => !(decide (0 ≤ c) && decide (c < p.gCells))) _ (q21.sep S9) (by first | omega | (simp; omega)) hb39 (fun i_ w_ hi_ S_ => val6_any p _ b1 w_ (box_keep (S9.nth 2 rfl) S_))) ?_
               rintro _ w10 ⟨rfl, T6⟩
               have S10 : Sep w [box b3 [.slice p.gInputs_a p.gInputs_n p.gInputs_c, .slice p.gOutputs_a p.gOutputs_n p.gOutputs_c, .slice p.gStates_a p.gStates_n p.gStates_c] 26, box b2 [.func (.func 27) #[] #[]] 67, box b1 (prgC p) 28] w10 := S9.trans T6
               clear T6 S9
               refine J.run 2 K8_53 [(89, .bool (List.any p.gOutputs_l (fun c => !(decide (0 ≤ c) && decide (c < p.gCells))))), (78, iv 1), (77, iv 3), (76, .slice (some ⟨b3, 0, none⟩) 3 3), (1, pv b1)] w10 (by kernel_rfl) ?_
               rcases Bool.eq_false_or_eq_true (List.any p.gOutputs_l (fun c => !(decide (0 ≤ c) && decide (c < p.gCells)))) with fk15 | fk15
               ·skip
                refine J.head (.bool true) (congrArg Value.bool fk15) ?_
                refine J.run 5 K8_54 [(2, .bool false)] w10 (by kernel_rfl) ?_
                refine J.ret Tryz.f8 [.bool false] Tryz.func8 ⟨by kernel_rfl, trivial⟩ ?_
                refine hR _ _ ?_
                exact ⟨congrArg Value.bool (validP_no (.inr (.inr (.inr (.inr (.inr (.inr (.inl (cellsL_any fk15))))))))).symm, S10.nil⟩
               ·skip
                refine J.head (.bool false) (congrArg Value.bool fk15) ?_
                refine J.run 8 K8_55 [(78, iv 2), (77, iv 3), (76, .slice (some ⟨b3, 0, none⟩) 3 3), (1, pv b1)] w10 (by kernel_rfl) ?_
                refine J.run 11 K8_56 [(78, iv 2), (77, iv 3), (76, .slice (some ⟨b3, 0, none⟩) 3 3), (1, pv b1)] w10 (by kernel_rfl) ?_
                refine J.ok (OK.index 80 50 1 (some ⟨b3, 0, none⟩) ⟨b3, 0, none⟩ 3 2 2 ⟨b3, 2, none⟩ (by kernel_rfl) (by kernel_rfl) rfl (by omega) (by omega) (by rfl)) ?_
                refine J.ok (OK.ldBox S10 0 81 26 2 (.slice p.gStates_a p.gStates_n p.gStates_c) (by kernel_rfl) rfl (by kernel_rfl)) ?_
                refine J.run 8 K8_57 [(85, .bool (decide ((p.gStates_n : Int) > 1000))), (5, .slice p.gStates_a p.gStates_n p.gStates_c), (78, iv 2), (77, iv 3), (76, .slice (some ⟨b3, 0, none⟩) 3 3), (1, pv b1)] w10 (by kernel_rfl) ?_
                by_cases fk16 : (p.gStates_n : Int) > 1000
                ·skip
                 refine J.head (.bool true) (congrArg Value.bool (decide_eq_true fk16)) ?_
                 refine J.run 10 K8_58 [(2, .bool false)] w10 (by kernel_rfl) ?_
                 refine J.ret Tryz.f8 [.bool false] Tryz.func8 ⟨by kernel_rfl, trivial⟩ ?_
                 refine hR _ _ ?_
                 exact ⟨congrArg Value.bool (validP_no (.inr (.inr (.inr (.inr (.inr (.inr (.inr (.inl (cellsL_long (by omega))))))))))).symm, S10.nil⟩
                ·skip
                 refine J.head (.bool false) (congrArg Value.bool (decide_eq_false fk16)) ?_
                 refine J.run 2 K8_59 [(87, .func (.func 39) #[] #[pv b1]), (86, .slice p.gStates_a p.gStates_n p.gStates_c), (85, .bool false), (78, iv 2), (77, iv 3), (76, .slice (some ⟨b3, 0, none⟩) 3 3), (1, pv b1)] w10 (by kernel_rfl) ?_
                 refine J.callF 88 38 #[.slice p.gStates_a p.gStates_n p.gStates_c, .func (.func 39) #[] #[pv b1]] hb38 (by kernel_rfl) (containsI1 p.gStates_a p.gStates_n p.gStates_c p.gStates_l 39 (pv b1) (fun c => !(decide (0 ≤ c) && decide (c < p.gCells))) _ (q18.sep S10) (by first | omega | (simp; omega)) hb39 (fun i_ w_ hi_ S_ => val6_any p _ b1 w_ (box_keep (S10.nth 2 rfl) S_))) ?_
                 rintro _ w11 ⟨rfl, T7⟩
                 have S11 : Sep w [box b3 [.slice p.gInputs_a p.gInputs_n p.gInputs_c, .slice p.gOutputs_a p.gOutputs_n p.gOutputs_c, .slice p.gStates_a p.gStates_n p.gStates_c] 26, box b2 [.func (.func 27) #[] #[]] 67, box b1 (prgC p) 28] w11 := S10.trans T7
                 clear T7 S10
                 refine J.run 2 K8_60 [(89, .bool (List.any p.gStates_l (fun c => !(decide (0 ≤ c) && decide (c < p.gCells))))), (78, iv 2), (77, iv 3), (76, .slice (some ⟨b3, 0, none⟩) 3 3), (1, pv b1)] w11 (by kernel_rfl) ?_
                 rcases Bool.eq_false_or_eq_true (List.any p.gStates_l (fun c => !(decide (0 ≤ c) && decide (c < p.gCells)))) with fk17 | fk17
                 ·skip
                  refine J.head (.bool true) (congrArg Value.bool fk17) ?_
                  refine J.run 5 K8_61 [(2, .bool false)] w11 (by kernel_rfl) ?_
                  refine J.ret Tryz.f8 [.bool false] Tryz.func8 ⟨by kernel_rfl, trivial⟩ ?_
                  refine hR _ _ ?_
                  exact ⟨congrArg Value.bool (validP_no (.inr (.inr (.inr (.inr (.inr (.inr (.inr (.inl (cellsL_any fk17)))))))))).symm, S11.nil⟩
                 ·skip
                  refine J.head (.bool false) (congrArg Value.bool fk17) ?_
                  refine J.run 8 K8_62 [(78, iv 3), (77, iv 3), (76, .slice (some ⟨b3, 0, none⟩) 3 3), (1, pv b1)] w11 (by kernel_rfl) ?_
                  refine J.run 10 K8_63 [(91, .pointer (some ⟨b1, 4, none⟩)), (1, pv b1)] w11 (by kernel_rfl) ?_
                  refine J.ok (OK.ldBox S11 2 92 3 4 (iv p.gCells) (by kernel_rfl) rfl (by kernel_rfl)) ?_
                  refine J.make (enc1 Value.bool) false S11 93 66 4 1 p.gCells p.gCells ((p.gCells).toNat) (.bool false) 1 (by kernel_rfl) (by omega) (by omega) (by kernel_rfl) (by kernel_rfl) (by kernel_rfl) (by rfl) (by omega) ?_
                  intro b4 w12 S12
                  refine J.run 6 K8_64 [(94, .pointer (some ⟨b1, 5, none⟩)), (6, .slice (some ⟨b4, 0, none⟩) ((List.replicate ((p.gCells).toNat) false).length) ((p.gCells).toNat)), (1, pv b1)] w12 (by kernel_rfl) ?_
                  refine J.ok (OK.ldBox S12 3 95 26 5 (.slice p.gInputs_a p.gInputs_n p.gInputs_c) (by kernel_rfl) rfl (by kernel_rfl)) ?_
                  refine J.run 1 K8_65 [(96, .pointer (some ⟨b1, 6, none⟩)), (95, .slice p.gInputs_a p.gInputs_n p.gInputs_c), (6, .slice (some ⟨b4, 0, none⟩) ((List.replicate ((p.gCells).toNat) false).length) ((p.gCells).toNat)), (1, pv b1)] w12 (by kernel_rfl) ?_
                  refine J.ok (OK.ldBox S12 3 97 26 6 (.slice p.gStates_a p.gStates_n p.gStates_c) (by kernel_rfl) rfl (by kernel_rfl)) ?_
                  refine J.newSlice S12 98 2 [.slice p.gInputs_a p.gInputs_n p.gInputs_c, .slice p.gStates_a p.gStates_n p.gStates_c] 26 (by kernel_rfl) ?_
                  intro b5 w13 S13
                  refine J.callF 99 40 #[.slice (some ⟨b5, 0, none⟩) 2 2] hb40 (by kernel_rfl) (concat2_any b5 p.gInputs_a p.gInputs_n p.gInputs_c p.gInputs_l p.gStates_a p.gStates_n p.gStates_c p.gStates_l _ (q15.sep S13) (q18.sep S13) (S13.nth 0 rfl) (by omega)) ?_
                  rintro _ w14 ⟨ra1, rc1, rfl, T8⟩
                  have S14 : Sep w [rowOf encI ra1 rc1 3 1 (p.gInputs_l ++ p.gStates_l), box b5 [.slice p.gInputs_a p.gInputs_n p.gInputs_c, .slice p.gStates_a p.gStates_n p.gStates_c] 26, rowOf (enc1 Value.bool) (some ⟨b4, 0, none⟩) ((p.gCells).toNat) 4 1 (List.replicate ((p.gCells).toNat) false), box b3 [.slice p.gInputs_a p.gInputs_n p.gInputs_c, .slice p.gOutputs_a p.gOutputs_n p.gOutputs_c, .slice p.gStates_a p.gStates_n p.gStates_c] 26, box b2 [.func (.func 27) #[] #[]] 67, box b1 (prgC p) 28] w14 := S13.trans T8
                  clear T8 S13
                  refine J.run 5 K8_66 [(101, iv 0), (100, iv ((p.gInputs_l ++ p.gStates_l).length : Int)), (99, .slice ra1 ((p.gInputs_l ++ p.gStates_l).length) rc1), (6, .slice (some ⟨b4, 0, none⟩) ((List.replicate ((p.gCells).toNat) false).length) ((p.gCells).toNat)), (1, pv b1)] w14 (by kernel_rfl) ?_
                  have L8_1 : ∀ (mm_ : Nat) (tk : List Bool) (k : Int) (w15 : World), (0 ≤ k) → (k ≤ ((p.gInputs_l ++ p.gStates_l).length : Int)) → (markP (p.gInputs_l ++ p.gStates_l) p.gCells (k).toNat tk) → Sep w [rowOf encI ra1 rc1 3 1 (p.gInputs_l ++ p.gStates_l), box b5 [.slice p.gInputs_a p.gInputs_n p.gInputs_c, .slice p.gStates_a p.gStates_n p.gStates_c] 26, rowOf (enc1 Value.bool) (some ⟨b4, 0, none⟩) ((p.gCells).toNat) 4 1 tk, box b3 [.slice p.gInputs_a p.gInputs_n p.gInputs_c, .slice p.gOutputs_a p.gOutputs_n p.gOutputs_c, .slice p.gStates_a p.gStates_n p.gStates_c] 26, box b2 [.func (.func 27) #[] #[]] 67, box b1 (prgC p) 28] w15 → (((p.gInputs_l ++ p.gStates_l).length : Int) - k).toNat = mm_ → J Tryz.prog 8 117 R K8_66 [(101, iv k), (100, iv ((p.gInputs_l ++ p.gStates_l).length : Int)), (99, .slice ra1 ((p.gInputs_l ++ p.gStates_l).length) rc1), (6, .slice (some ⟨b4, 0, none⟩) ((List.replicate ((p.gCells).toNat) false).length) ((p.gCells).toNat)), (1, pv b1)] w15 := by
                   intro mm1
                   induction mm1 using Nat.strongRecOn with
                   | _ mm1 ih1 =>
                   intro tk k w15 k0 k1 hM S15 hm1
                   have hck0 := fun (j : Nat) (hj : j < (p.gInputs_l ++ p.gStates_l).length) => getD_two (j := j) ((cellsL_at (cellsL_none (by omega) fk13)).2) ((cellsL_at (cellsL_none (by omega) fk17)).2) hj
                   have hck1 : k < ((p.gInputs_l ++ p.gStates_l).length : Int) → _ := fun h_ => hck0 k.toNat (by omega)
                   have htk := hM.1
                   refine J.run 5 K8_67 [(102, .bool (decide (k < ((p.gInputs_l ++ p.gStates_l).length : Int)))), (101, iv k), (100, iv ((p.gInputs_l ++ p.gStates_l).length : Int)), (99, .slice ra1 ((p.gInputs_l ++ p.gStates_l).length) rc1), (6, .slice (some ⟨b4, 0, none⟩) ((List.replicate ((p.gCells).toNat) false).length) ((p.gCells).toNat)), (1, pv b1)] w15 (by kernel_rfl) ?_
                   by_cases fk18 : k < ((p.gInputs_l ++ p.gStates_l).length : Int)
                   ·skip
                    refine J.head (.bool true) (congrArg Value.bool (decide_eq_true fk18)) ?_
                    have hck := hck1 (by omega)
                    refine J.run 6 K8_68 [(101, iv k), (100, iv ((p.gInputs_l ++ p.gStates_l).length : Int)), (99, .slice ra1 ((p.gInputs_l ++ p.gStates_l).length) rc1), (6, .slice (some ⟨b4, 0, none⟩) ((List.replicate ((p.gCells).toNat) false).length) ((p.gCells).toNat)), (1, pv b1)] w15 (by kernel_rfl) ?_
                    obtain ⟨p1, hp1⟩ := row1_addr (S15.nth 0 rfl) (show 0 < (p.gInputs_l ++ p.gStates_l).length by first | omega | (simp; omega))
                    refine J.ok (OK.index 103 26 1 ra1 p1 ((p.gInputs_l ++ p.gStates_l).length) (k).toNat k (p1.add (k).toNat) (by kernel_rfl) (by kernel_rfl) hp1 (by omega) (by first | omega | (simp; omega)) (by rw [Nat.mul_one])) ?_
                    refine J.ok (OK.ldCell 104 3 (p1.add (k).toNat) (iv ((p.gInputs_l ++ p.gStates_l).getD (k).toNat 0)) (by kernel_rfl) (by kernel_rfl) (row1_cell (g := (Value.int .i64)) S15 0 rfl hp1 0 (k).toNat (by first | omega | (simp; omega)))) ?_
                    refine J.run 7 K8_69 [(106, iv ((p.gInputs_l ++ p.gStates_l).getD (k).toNat 0)), (105, .slice (some ⟨b4, 0, none⟩) ((List.replicate ((p.gCells).toNat) false).length) ((p.gCells).toNat)), (8, iv ((p.gInputs_l ++ p.gStates_l).getD (k).toNat 0)), (101, iv k), (100, iv ((p.gInputs_l ++ p.gStates_l).length : Int)), (99, .slice ra1 ((p.gInputs_l ++ p.gStates_l).length) rc1), (6, .slice (some ⟨b4, 0, none⟩) ((List.replicate ((p.gCells).toNat) false).length) ((p.gCells).toNat)), (1, pv b1)] w15 (by kernel_rfl) ?_
                    obtain ⟨p2, hp2⟩ := row1_addr (S15.nth 2 rfl) (show 0 < (tk).length by first | omega | (simp; omega))
                    refine J.ok (OK.index 107 66 1 (some ⟨b4, 0, none⟩) p2 ((List.replicate ((p.gCells).toNat) false).length) ((p.gInputs_l ++ p.gStates_l).getD (k).toNat 0).toNat ((p.gInputs_l ++ p.gStates_l).getD (k).toNat 0) (p2.add ((p.gInputs_l ++ p.gStates_l).getD (k).toNat 0).toNat) (by kernel_rfl) (by kernel_rfl) hp2 (by omega) (by first | omega | (simp; omega)) (by rw [Nat.mul_one])) ?_
                    refine J.ok (OK.ldCell 108 4 (p2.add ((p.gInputs_l ++ p.gStates_l).getD (k).toNat 0).toNat) (.bool (tk.getD ((p.gInputs_l ++ p.gStates_l).getD (k).toNat 0).toNat false)) (by kernel_rfl) (by kernel_rfl) (row1_cell (g := Value.bool) S15 2 rfl hp2 false ((p.gInputs_l ++ p.gStates_l).getD (k).toNat 0).toNat (by first | omega | (simp; omega)))) ?_
                    refine J.run 1 K8_70 [(108, .bool (tk.getD ((p.gInputs_l ++ p.gStates_l).getD (k).toNat 0).toNat false)), (8, iv ((p.gInputs_l ++ p.gStates_l).getD (k).toNat 0)), (101, iv k), (100, iv ((p.gInputs_l ++ p.gStates_l).length : Int)), (99, .slice ra1 ((p.gInputs_l ++ p.gStates_l).length) rc1), (6, .slice (some ⟨b4, 0, none⟩) ((List.replicate ((p.gCells).toNat) false).length) ((p.gCells).toNat)), (1, pv b1)] w15 (by kernel_rfl) ?_
                    rcases Bool.eq_false_or_eq_true (tk.getD ((p.gInputs_l ++ p.gStates_l).getD (k).toNat 0).toNat false) with fk19 | fk19
                    ·skip
                     refine J.head (.bool true) (congrArg Value.bool fk19) ?_
                     refine J.run 5 K8_71 [(2, .bool false)] w15 (by kernel_rfl) ?_
                     refine J.ret Tryz.f8 [.bool false] Tryz.func8 ⟨by kernel_rfl, trivial⟩ ?_
                     refine hR _ _ ?_
                     exact ⟨congrArg Value.bool (validP_no (.inr (.inr (.inr (.inr (.inr (.inr (.inr (.inr (.inr (.inl (mark_twice hM (by omega) hck fk19)))))))))))).symm, S15.nil⟩
                    ·skip
                     refine J.head (.bool false) (congrArg Value.bool fk19) ?_
                     refine J.run 5 K8_72 [(110, iv ((p.gInputs_l ++ p.gStates_l).getD (k).toNat 0)), (109, .slice (some ⟨b4, 0, none⟩) ((List.replicate ((p.gCells).toNat) false).length) ((p.gCells).toNat)), (101, iv k), (100, iv ((p.gInputs_l ++ p.gStates_l).length : Int)), (99, .slice ra1 ((p.gInputs_l ++ p.gStates_l).length) rc1), (6, .slice (some ⟨b4, 0, none⟩) ((List.replicate ((p.gCells).toNat) false).length) ((p.gCells).toNat)), (1, pv b1)] w15 (by kernel_rfl) ?_
                     refine J.ok (OK.index 111 66 1 (some ⟨b4, 0, none⟩) p2 ((List.replicate ((p.gCells).toNat) false).length) ((p.gInputs_l ++ p.gStates_l).getD (k).toNat 0).toNat ((p.gInputs_l ++ p.gStates_l).getD (k).toNat 0) (p2.add ((p.gInputs_l ++ p.gStates_l).getD (k).toNat 0).toNat) (by kernel_rfl) (by kernel_rfl) hp2 (by omega) (by first | omega | (simp; omega)) (by rw [Nat.mul_one])) ?_
                     refine J.stRow1 Value.bool bool_one S15 2 tk 4 p2 ((p.gInputs_l ++ p.gStates_l).getD (k).toNat 0).toNat true rfl (by kernel_rfl) hp2 (by first | omega | (simp; omega)) (by kernel_rfl) ?_
                     intro w16 S16
                     replace S16 : Sep w [rowOf encI ra1 rc1 3 1 (p.gInputs_l ++ p.gStates_l), box b5 [.slice p.gInputs_a p.gInputs_n p.gInputs_c, .slice p.gStates_a p.gStates_n p.gStates_c] 26, rowOf (enc1 Value.bool) (some ⟨b4, 0, none⟩) ((p.gCells).toNat) 4 1 (tk.set ((p.gInputs_l ++ p.gStates_l).getD (k).toNat 0).toNat true), box b3 [.slice p.gInputs_a p.gInputs_n p.gInputs_c, .slice p.gOutputs_a p.gOutputs_n p.gOutputs_c, .slice p.gStates_a p.gStates_n p.gStates_c] 26, box b2 [.func (.func 27) #[] #[]] 67, box b1 (prgC p) 28] w16 := S16
                     refine J.run 4 K8_73 [(112, iv (IntKind.wrap .i64 (k + 1))), (100, iv ((p.gInputs_l ++ p.gStates_l).length : Int)), (99, .slice ra1 ((p.gInputs_l ++ p.gStates_l).length) rc1), (6, .slice (some ⟨b4, 0, none⟩) ((List.replicate ((p.gCells).toNat) false).length) ((p.gCells).toNat)), (1, pv b1)] w16 (by kernel_rfl) ?_
                     refine J.head (iv (k + 1)) (congrArg (Value.int .i64) (IntWalk.i64_in _ (by omega))) ?_
                     refine J.run 3 K8_66 [(101, iv (k + 1)), (100, iv ((p.gInputs_l ++ p.gStates_l).length : Int)), (99, .slice ra1 ((p.gInputs_l ++ p.gStates_l).length) rc1), (6, .slice (some ⟨b4, 0, none⟩) ((List.replicate ((p.gCells).toNat) false).length) ((p.gCells).toNat)), (1, pv b1)] w16 (by kernel_rfl) ?_
                     refine J.run 0 K8_66 [(101, iv (k + 1)), (100, iv ((p.gInputs_l ++ p.gStates_l).length : Int)), (99, .slice ra1 ((p.gInputs_l ++ p.gStates_l).length) rc1), (6, .slice (some ⟨b4, 0, none⟩) ((List.replicate ((p.gCells).toNat) false).length) ((p.gCells).toNat)), (1, pv b1)] w16 (by kernel_rfl) ?_
                     exact ih1 _ (show (((p.gInputs_l ++ p.gStates_l).length : Int) - (k + 1)).toNat < mm1 from by omega) (tk.set ((p.gInputs_l ++ p.gStates_l).getD (k).toNat 0).toNat true) (k + 1) w16 (by omega) (by omega) (by rw [show (k + 1).toNat = k.toNat + 1 by omega]; exact mark_step hM (by omega) hck fk19) S16 rfl
                   ·skip
                    refine J.head (.bool false) (congrArg Value.bool (decide_eq_false fk18)) ?_
                    refine J.run 5 K8_74 [(113, .pointer (some ⟨b1, 8, none⟩))] w15 (by kernel_rfl) ?_
                    refine J.ok (OK.ldBox S15 5 114 26 8 (.slice p.gInitial_a p.gInitial_n p.gInitial_c) (by kernel_rfl) rfl (by kernel_rfl)) ?_
                    refine J.callF 115 38 #[.slice p.gInitial_a p.gInitial_n p.gInitial_c, .func (.func 41) #[] #[]] hb38 (by kernel_rfl) (containsI0 p.gInitial_a p.gInitial_n p.gInitial_c p.gInitial_l 41  (fun n => !initB n) _ (q24.sep S15) (by first | omega | (simp; omega)) hb41 (fun i_ w_ hi_ S_ => val7_any _ w_)) ?_
                    rintro _ w17 ⟨rfl, T9⟩
                    have S17 : Sep w [rowOf encI ra1 rc1 3 1 (p.gInputs_l ++ p.gStates_l), box b5 [.slice p.gInputs_a p.gInputs_n p.gInputs_c, .slice p.gStates_a p.gStates_n p.gStates_c] 26, rowOf (enc1 Value.bool) (some ⟨b4, 0, none⟩) ((p.gCells).toNat) 4 1 tk, box b3 [.slice p.gInputs_a p.gInputs_n p.gInputs_c, .slice p.gOutputs_a p.gOutputs_n p.gOutputs_c, .slice p.gStates_a p.gStates_n p.gStates_c] 26, box b2 [.func (.func 27) #[] #[]] 67, box b1 (prgC p) 28] w17 := S15.trans T9
                    clear T9 S15
                    refine J.run 3 K8_75 [(2, .bool (!(List.any p.gInitial_l (fun n => !initB n))))] w17 (by kernel_rfl) ?_
                    refine J.ret Tryz.f8 [.bool (!(List.any p.gInitial_l (fun n => !initB n)))] Tryz.func8 ⟨by kernel_rfl, trivial⟩ ?_
                    refine hR _ _ ?_
                    exact ⟨congrArg Value.bool (by show (!(p.gInitial_l.any (fun n => !initB n))) = validP p; cases hz_ : p.gInitial_l.any (fun n => !initB n) with | true => exact (validP_no (.inr (.inr (.inr (.inr (.inr (.inr (.inr (.inr (.inr (.inr (any_true_all hz_)))))))))))).symm | false => exact (validP_yes (by omega) (any_false_all fk8) (any_false_all fk9) (any_false_all fk10) (any_false_all fk11) (cellsL_none (by omega) fk13) (cellsL_none (by omega) fk15) (cellsL_none (by omega) fk17) (by omega) (mark_end hM (by omega)) (any_false_all hz_)).symm), S17.nil⟩
                  exact L8_1 _ (List.replicate ((p.gCells).toNat) false) 0 w14 (by omega) (by omega) (mark_zero (by omega)) S14 rfl
       ·skip
        refine J.head (.bool true) (congrArg Value.bool (bne_iff_ne.2 fk7)) ?_
        refine J.run 5 K8_76 [(2, .bool false)] w1 (by kernel_rfl) ?_
        refine J.ret Tryz.f8 [.bool false] Tryz.func8 ⟨by kernel_rfl, trivial⟩ ?_
        refine hR _ _ ?_
        exact ⟨congrArg Value.bool (validP_no (.inr (.inr (.inr (.inr (.inr (.inr (.inr (.inr (.inl (by omega))))))))))).symm, S1.nil⟩

end Go.Proofs.YthfpejhonhaggaaGreatDoor

