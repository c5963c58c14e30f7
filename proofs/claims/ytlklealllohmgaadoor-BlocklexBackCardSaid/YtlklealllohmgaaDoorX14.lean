/- Walks of functions of this seat, printed by a program over the engine. Conditions: as each theorem says. -/
import Derived.Test.YtlklealllohmgaaDoorX13
namespace Go.Proofs.YtlklealllohmgaaDoor
open Go.Eng Go.RowKit
set_option linter.unusedSimpArgs false
set_option linter.unusedVariables false
theorem hb7 : HasBody Tryd.prog 7 := fun _ _ => by kernel_rfl
noncomputable def K7_0 : List Item := adv 7 [] (bodyOf Tryd.f7)
noncomputable def K7_1 : List Item := adv 11 [false] (popK K7_0)
noncomputable def K7_2 : List Item := adv 5 [true] K7_1
noncomputable def K7_3 : List Item := adv 5 [false] K7_1
noncomputable def K7_4 : List Item := adv 4 [] (popK K7_3)
noncomputable def K7_5 : List Item := adv 1 [] (popK K7_4)
noncomputable def K7_6 : List Item := adv 8 [] (popK K7_5)
noncomputable def K7_7 : List Item := adv 4 [false] K7_6
noncomputable def K7_8 : List Item := adv 10 [] (popK K7_7)
noncomputable def K7_9 : List Item := adv 5 [] K7_8
noncomputable def K7_10 : List Item := adv 6 [true] K7_9
noncomputable def K7_11 : List Item := adv 5 [] (popK (popK (popK (popK K7_10))))
noncomputable def K7_12 : List Item := adv 3 [] (popK K7_11)
noncomputable def K7_13 : List Item := adv 9 [true] K7_12
noncomputable def K7_14 : List Item := adv 3 [] (popK K7_12)
noncomputable def K7_15 : List Item := adv 5 [true] K7_14
noncomputable def K7_16 : List Item := adv 4 [false] K7_14
noncomputable def K7_17 : List Item := adv 2 [] (popK K7_16)
noncomputable def K7_18 : List Item := adv 4 [] (popK (popK (popK K7_17)))
noncomputable def K7_19 : List Item := adv 2 [] (popK K7_18)
noncomputable def K7_20 : List Item := adv 2 [true] K7_19
noncomputable def K7_21 : List Item := adv 2 [] (popK K7_20)
noncomputable def K7_22 : List Item := adv 4 [] (popK (popK (popK K7_21)))
noncomputable def K7_23 : List Item := adv 3 [false] K7_19
noncomputable def K7_24 : List Item := adv 4 [] (popK (popK K7_23))
noncomputable def K7_25 : List Item := adv 4 [false] K7_9
noncomputable def K7_26 : List Item := adv 4 [] (popK (popK K7_25))
noncomputable def K7_27 : List Item := adv 1 [] (popK K7_26)
noncomputable def K7_28 : List Item := adv 7 [] (popK K7_27)
noncomputable def K7_29 : List Item := adv 2 [] K7_28
noncomputable def K7_30 : List Item := adv 3 [] (popK K7_29)
noncomputable def K7_31 : List Item := adv 8 [true] K7_6
set_option maxRecDepth 20000 in
set_option maxHeartbeats 20000000 in
theorem lawback_any (s : ByteArray) (b : Int) (w : World) (hW : TabW w) (hsb : s.size ≤ 9223372036854775807) (hb : 0 ≤ b ∧ b ≤ 255) : Ret Tryd.prog 7 #[.string s, .int .u8 b] w (fun v w' => v = .bool true ∧ Sep w [] w') := by
  have S0 := Sep.refl w
  refine Ret.named fun R hR => ?_
  refine Ret.of_J (N := 76) [(0, .string s), (1, .int .u8 b)] Tryd.func7 rfl rfl (Nat.le_of_ble_eq_true (by kernel_rfl)) (by kernel_rfl) ?_
  have hk3 : (b % 3).toNat < 3 := by omega
  have hzb : (([(⟨#[32]⟩ : ByteArray), ⟨#[9, 32]⟩, ⟨#[32, 32, 32]⟩] : List ByteArray).getD (b % 3).toNat ByteArray.empty).size ≤ 3 := (blk_blank hk3).2.2.1
  have hze : (([(⟨#[10]⟩ : ByteArray), ⟨#[35, 32, 97, 32, 99, 111, 109, 109, 101, 110, 116, 10, 10]⟩, ⟨#[32, 35, 10, 32, 32, 10]⟩] : List ByteArray).getD (b % 3).toNat ByteArray.empty).size ≤ 16 := Nat.le_trans (Nat.le_add_left _ _) (blk_blank hk3).2.2.2
  refine J.run 7 K7_0 [(0, .string s), (1, .int .u8 b)] w (by kernel_rfl) ?_
  refine J.callF 14 9 #[] hb9 (by kernel_rfl) (awake_any  _ (tabW_sep hW S0)) ?_
  rintro _ w1 ⟨rfl, T1⟩
  have S1 : Sep w [] w1 := S0.trans T1
  clear T1
  refine J.run 11 K7_1 [(18, .bool (decide ((s.size : Int) > 400))), (0, .string s), (1, .int .u8 b)] w1 (by kernel_rfl) ?_
  by_cases fk1 : (s.size : Int) > 400
  · skip
    refine J.head (.bool true) (congrArg Value.bool (decide_eq_true fk1)) ?_
    refine J.run 5 K7_2 [(4, .bool true)] w1 (by kernel_rfl) ?_
    refine J.ret Tryd.f7 [.bool true] Tryd.func7 ⟨by kernel_rfl, trivial⟩ ?_
    refine hR _ _ ?_
    exact ⟨rfl, S1.nil⟩
  · skip
    refine J.head (.bool false) (congrArg Value.bool (decide_eq_false fk1)) ?_
    refine J.run 5 K7_3 [(20, .string s), (1, .int .u8 b)] w1 (by kernel_rfl) ?_
    refine J.callF 21 10 #[.string s] hb10 (by kernel_rfl) (tokens_any s _ (by omega) (tabW_sep hW S1)) ?_
    rintro _ w2 ⟨ra1, rc1, rfl, T2⟩
    have S2 : Sep w [rowOf tkE ra1 rc1 36 4 ((tkF s).l)] w2 := S1.trans T2
    clear T2 S1
    refine J.run 4 K7_4 [(24, .int .i64 ((tkF s).e)), (23, .agg #[.int .i64 ((tkF s).pl), .int .i64 ((tkF s).pc)]), (22, .slice ra1 (((tkF s).l).length) rc1), (1, .int .u8 b)] w2 (by kernel_rfl) ?_
    refine J.new S2 6 [.int .i64 0, .int .i64 0] 25 (by kernel_rfl) ?_
    intro b1 w3 S3
    refine J.run 1 K7_5 [(5, .slice ra1 (((tkF s).l).length) rc1), (6, .pointer (some ⟨b1, 0, none⟩)), (24, .int .i64 ((tkF s).e)), (23, .agg #[.int .i64 ((tkF s).pl), .int .i64 ((tkF s).pc)]), (1, .int .u8 b)] w3 (by kernel_rfl) ?_
    refine J.stBox S3 0 25 0 (.agg #[.int .i64 ((tkF s).pl), .int .i64 ((tkF s).pc)]) [.int .i64 ((tkF s).pl), .int .i64 ((tkF s).pc)] [box b1 [.int .i64 ((tkF s).pl), .int .i64 ((tkF s).pc)] 25, rowOf tkE ra1 rc1 36 4 ((tkF s).l)] (by kernel_rfl) rfl (by kernel_rfl) (by kernel_rfl) rfl ?_
    intro w4 S4
    refine J.run 8 K7_6 [(26, .bool (((tkF s).e) != 0)), (5, .slice ra1 (((tkF s).l).length) rc1), (1, .int .u8 b)] w4 (by kernel_rfl) ?_
    by_cases fk2 : ((tkF s).e) = 0
    · skip
      refine J.head (.bool false) (congrArg Value.bool (bne_eq_false_iff_eq.2 fk2)) ?_
      have hG := tk_places (s := s) (by omega)
      obtain ⟨⟨o1, o2⟩, o3⟩ := hG.2 fk2
      have hgl := tkF_len s
      have hrm := back_room hk3 (s := s) (by omega)
      have hbk := back_ok hk3 (s := s) (by omega) fk2
      refine J.run 4 K7_7 [(5, .slice ra1 (((tkF s).l).length) rc1), (1, .int .u8 b)] w4 (by kernel_rfl) ?_
      refine J.new S4 8 [.pointer none, .slice none 0 0] 49 (by kernel_rfl) ?_
      intro b2 w5 S5
      refine J.run 10 K7_8 [(32, .int .i64 0), (31, .int .i64 (((tkF s).l).length : Int)), (30, .slice ra1 (((tkF s).l).length) rc1), (8, .pointer (some ⟨b2, 0, none⟩)), (5, .slice ra1 (((tkF s).l).length) rc1), (1, .int .u8 b)] w5 (by kernel_rfl) ?_
      have S6 : Sep w [rowOf enc8 none 0 5 1 (ls ByteArray.empty), box b2 [.pointer none, .slice none 0 0] 49, box b1 [.int .i64 ((tkF s).pl), .int .i64 ((tkF s).pc)] 25, rowOf tkE ra1 rc1 36 4 ((tkF s).l)] w5 := S5.nilRow 5 1
      have L7_1 : ∀ (mm_ : Nat) (pp : Option Addr) (ra : Option Addr) (rc : Nat) (t : ByteArray) (i : Int) (w6 : World), (0 ≤ i) → (i ≤ ((tkF s).l.length : Int)) → (pp = none ∨ pp = some ⟨b2, 0, none⟩) → (t = backB (b % 3).toNat ((tkF s).l.take (i).toNat)) → Sep w [rowOf enc8 ra rc 5 1 (ls t), box b2 [.pointer pp, .slice ra ((ls t).length) rc] 49, box b1 [.int .i64 ((tkF s).pl), .int .i64 ((tkF s).pc)] 25, rowOf tkE ra1 rc1 36 4 ((tkF s).l)] w6 → (((tkF s).l.length : Int) - i).toNat = mm_ → J Tryd.prog 7 76 R K7_8 [(32, .int .i64 i), (31, .int .i64 (((tkF s).l).length : Int)), (30, .slice ra1 (((tkF s).l).length) rc1), (8, .pointer (some ⟨b2, 0, none⟩)), (5, .slice ra1 (((tkF s).l).length) rc1), (1, .int .u8 b)] w6 := by
        intro mm1
        induction mm1 using Nat.strongRecOn with
        | _ mm1 ih1 =>
        intro pp ra rc t i w6 h0 h1 hpp ht S7 hm1
        refine J.run 5 K7_9 [(33, .bool (decide (i < (((tkF s).l).length : Int)))), (32, .int .i64 i), (31, .int .i64 (((tkF s).l).length : Int)), (30, .slice ra1 (((tkF s).l).length) rc1), (8, .pointer (some ⟨b2, 0, none⟩)), (5, .slice ra1 (((tkF s).l).length) rc1), (1, .int .u8 b)] w6 (by kernel_rfl) ?_
        by_cases fk3 : i < (((tkF s).l).length : Int)
        · skip
          refine J.head (.bool true) (congrArg Value.bool (decide_eq_true fk3)) ?_
          have hX : PT (splitOn 10 (ls s)) ((tkF s).l.getD (i).toNat (⟨0, ByteArray.empty, 0, 0⟩ : Tk)) := o1 i.toNat (by omega)
          have hxs := text_small hX
          have hts := back_take (b % 3).toNat (tkF s).l i.toNat
          rw [← ht] at hts
          refine J.run 6 K7_10 [(32, .int .i64 i), (31, .int .i64 (((tkF s).l).length : Int)), (30, .slice ra1 (((tkF s).l).length) rc1), (8, .pointer (some ⟨b2, 0, none⟩)), (5, .slice ra1 (((tkF s).l).length) rc1), (1, .int .u8 b)] w6 (by kernel_rfl) ?_
          obtain ⟨p1, hp1, hc1⟩ := (rowOf_recs (S7.nth 3 rfl) _ rfl (fun _ => rfl) (by decide)).at (⟨0, ByteArray.empty, 0, 0⟩ : Tk) (i).toNat (by omega)
          refine J.ok (OK.index 34 23 4 ra1 p1 (((tkF s).l).length) (i).toNat i (p1.add ((i).toNat * 4)) (by kernel_rfl) (by kernel_rfl) hp1 (by omega) (by omega) rfl) ?_
          refine J.ok (OK.ldCells 35 36 (p1.add ((i).toNat * 4)) [.int .i64 ((((tkF s).l).getD (i).toNat (⟨0, ByteArray.empty, 0, 0⟩ : Tk)).gKind), .string ((((tkF s).l).getD (i).toNat (⟨0, ByteArray.empty, 0, 0⟩ : Tk)).gText), .int .i64 ((((tkF s).l).getD (i).toNat (⟨0, ByteArray.empty, 0, 0⟩ : Tk)).gPlace_Line), .int .i64 ((((tkF s).l).getD (i).toNat (⟨0, ByteArray.empty, 0, 0⟩ : Tk)).gPlace_Column)] (by kernel_rfl) (by kernel_rfl) (by kernel_rfl) hc1) ?_
          refine J.new S7 10 [.int .i64 0, .string ByteArray.empty, .int .i64 0, .int .i64 0] 36 (by kernel_rfl) ?_
          intro b3 w7 S8
          refine J.stBox S8 0 36 0 (.agg #[.int .i64 ((((tkF s).l).getD (i).toNat (⟨0, ByteArray.empty, 0, 0⟩ : Tk)).gKind), .string ((((tkF s).l).getD (i).toNat (⟨0, ByteArray.empty, 0, 0⟩ : Tk)).gText), .int .i64 ((((tkF s).l).getD (i).toNat (⟨0, ByteArray.empty, 0, 0⟩ : Tk)).gPlace_Line), .int .i64 ((((tkF s).l).getD (i).toNat (⟨0, ByteArray.empty, 0, 0⟩ : Tk)).gPlace_Column)]) [.int .i64 ((((tkF s).l).getD (i).toNat (⟨0, ByteArray.empty, 0, 0⟩ : Tk)).gKind), .string ((((tkF s).l).getD (i).toNat (⟨0, ByteArray.empty, 0, 0⟩ : Tk)).gText), .int .i64 ((((tkF s).l).getD (i).toNat (⟨0, ByteArray.empty, 0, 0⟩ : Tk)).gPlace_Line), .int .i64 ((((tkF s).l).getD (i).toNat (⟨0, ByteArray.empty, 0, 0⟩ : Tk)).gPlace_Column)] [box b3 [.int .i64 ((((tkF s).l).getD (i).toNat (⟨0, ByteArray.empty, 0, 0⟩ : Tk)).gKind), .string ((((tkF s).l).getD (i).toNat (⟨0, ByteArray.empty, 0, 0⟩ : Tk)).gText), .int .i64 ((((tkF s).l).getD (i).toNat (⟨0, ByteArray.empty, 0, 0⟩ : Tk)).gPlace_Line), .int .i64 ((((tkF s).l).getD (i).toNat (⟨0, ByteArray.empty, 0, 0⟩ : Tk)).gPlace_Column)] 36, rowOf enc8 ra rc 5 1 (ls t), box b2 [.pointer pp, .slice ra ((ls t).length) rc] 49, box b1 [.int .i64 ((tkF s).pl), .int .i64 ((tkF s).pc)] 25, rowOf tkE ra1 rc1 36 4 ((tkF s).l)] (by kernel_rfl) rfl (by kernel_rfl) (by kernel_rfl) rfl ?_
          intro w8 S9
          refine J.run 5 K7_11 [(36, .pointer (some ⟨b3, 1, none⟩)), (10, .pointer (some ⟨b3, 0, none⟩)), (32, .int .i64 i), (31, .int .i64 (((tkF s).l).length : Int)), (30, .slice ra1 (((tkF s).l).length) rc1), (8, .pointer (some ⟨b2, 0, none⟩)), (5, .slice ra1 (((tkF s).l).length) rc1), (1, .int .u8 b)] w8 (by kernel_rfl) ?_
          refine J.ok (OK.ldBox S9 0 37 9 1 (.string ((((tkF s).l).getD (i).toNat (⟨0, ByteArray.empty, 0, 0⟩ : Tk)).gText)) (by kernel_rfl) rfl (by kernel_rfl)) ?_
          refine J.run 3 K7_12 [(40, .bool (decide ((((((tkF s).l).getD (i).toNat (⟨0, ByteArray.empty, 0, 0⟩ : Tk)).gText).size : Int) > 1000))), (10, .pointer (some ⟨b3, 0, none⟩)), (32, .int .i64 i), (31, .int .i64 (((tkF s).l).length : Int)), (30, .slice ra1 (((tkF s).l).length) rc1), (8, .pointer (some ⟨b2, 0, none⟩)), (5, .slice ra1 (((tkF s).l).length) rc1), (1, .int .u8 b)] w8 (by kernel_rfl) ?_
          by_cases fk4 : (((((tkF s).l).getD (i).toNat (⟨0, ByteArray.empty, 0, 0⟩ : Tk)).gText).size : Int) > 1000
          · skip
            refine J.head (.bool true) (congrArg Value.bool (decide_eq_true fk4)) ?_
            refine J.run 9 K7_13 [(4, .bool false)] w8 (by kernel_rfl) ?_
            refine J.ret Tryd.f7 [.bool false] Tryd.func7 ⟨by kernel_rfl, trivial⟩ ?_
            refine hR _ _ ?_
            exfalso
            omega
          · skip
            refine J.head (.bool false) (congrArg Value.bool (decide_eq_false fk4)) ?_
            have S10 : Sep w [rowOf enc8 ra rc 5 1 (ls t), box b3 [.int .i64 ((((tkF s).l).getD (i).toNat (⟨0, ByteArray.empty, 0, 0⟩ : Tk)).gKind), .string ((((tkF s).l).getD (i).toNat (⟨0, ByteArray.empty, 0, 0⟩ : Tk)).gText), .int .i64 ((((tkF s).l).getD (i).toNat (⟨0, ByteArray.empty, 0, 0⟩ : Tk)).gPlace_Line), .int .i64 ((((tkF s).l).getD (i).toNat (⟨0, ByteArray.empty, 0, 0⟩ : Tk)).gPlace_Column)] 36, box b2 [.pointer pp, .slice ra ((ls t).length) rc] 49, box b1 [.int .i64 ((tkF s).pl), .int .i64 ((tkF s).pc)] 25, rowOf tkE ra1 rc1 36 4 ((tkF s).l)] w8 := S9.front 1 rfl
            have S11 : Sep w [box b2 [.pointer pp, .slice ra ((ls t).length) rc] 49, rowOf enc8 ra rc 5 1 (ls t), box b3 [.int .i64 ((((tkF s).l).getD (i).toNat (⟨0, ByteArray.empty, 0, 0⟩ : Tk)).gKind), .string ((((tkF s).l).getD (i).toNat (⟨0, ByteArray.empty, 0, 0⟩ : Tk)).gText), .int .i64 ((((tkF s).l).getD (i).toNat (⟨0, ByteArray.empty, 0, 0⟩ : Tk)).gPlace_Line), .int .i64 ((((tkF s).l).getD (i).toNat (⟨0, ByteArray.empty, 0, 0⟩ : Tk)).gPlace_Column)] 36, box b1 [.int .i64 ((tkF s).pl), .int .i64 ((tkF s).pc)] 25, rowOf tkE ra1 rc1 36 4 ((tkF s).l)] w8 := S10.front 2 rfl
            refine J.callF 41 22 #[.pointer (some ⟨b2, 0, none⟩)] hb22 (by kernel_rfl) (blen_any b2 pp ra rc t _ _ _ S11 (by omega)) ?_
            rintro _ w9 ⟨rfl, S12⟩
            replace S12 : Sep w [box b2 [.pointer pp, .slice ra ((ls t).length) rc] 49, rowOf enc8 ra rc 5 1 (ls t), box b3 [.int .i64 ((((tkF s).l).getD (i).toNat (⟨0, ByteArray.empty, 0, 0⟩ : Tk)).gKind), .string ((((tkF s).l).getD (i).toNat (⟨0, ByteArray.empty, 0, 0⟩ : Tk)).gText), .int .i64 ((((tkF s).l).getD (i).toNat (⟨0, ByteArray.empty, 0, 0⟩ : Tk)).gPlace_Line), .int .i64 ((((tkF s).l).getD (i).toNat (⟨0, ByteArray.empty, 0, 0⟩ : Tk)).gPlace_Column)] 36, box b1 [.int .i64 ((tkF s).pl), .int .i64 ((tkF s).pc)] 25, rowOf tkE ra1 rc1 36 4 ((tkF s).l)] w9 := S12
            have S13 : Sep w [rowOf enc8 ra rc 5 1 (ls t), box b2 [.pointer pp, .slice ra ((ls t).length) rc] 49, box b3 [.int .i64 ((((tkF s).l).getD (i).toNat (⟨0, ByteArray.empty, 0, 0⟩ : Tk)).gKind), .string ((((tkF s).l).getD (i).toNat (⟨0, ByteArray.empty, 0, 0⟩ : Tk)).gText), .int .i64 ((((tkF s).l).getD (i).toNat (⟨0, ByteArray.empty, 0, 0⟩ : Tk)).gPlace_Line), .int .i64 ((((tkF s).l).getD (i).toNat (⟨0, ByteArray.empty, 0, 0⟩ : Tk)).gPlace_Column)] 36, box b1 [.int .i64 ((tkF s).pl), .int .i64 ((tkF s).pc)] 25, rowOf tkE ra1 rc1 36 4 ((tkF s).l)] w9 := S12.front 1 rfl
            clear S12
            have S14 : Sep w [box b3 [.int .i64 ((((tkF s).l).getD (i).toNat (⟨0, ByteArray.empty, 0, 0⟩ : Tk)).gKind), .string ((((tkF s).l).getD (i).toNat (⟨0, ByteArray.empty, 0, 0⟩ : Tk)).gText), .int .i64 ((((tkF s).l).getD (i).toNat (⟨0, ByteArray.empty, 0, 0⟩ : Tk)).gPlace_Line), .int .i64 ((((tkF s).l).getD (i).toNat (⟨0, ByteArray.empty, 0, 0⟩ : Tk)).gPlace_Column)] 36, rowOf enc8 ra rc 5 1 (ls t), box b2 [.pointer pp, .slice ra ((ls t).length) rc] 49, box b1 [.int .i64 ((tkF s).pl), .int .i64 ((tkF s).pc)] 25, rowOf tkE ra1 rc1 36 4 ((tkF s).l)] w9 := S13.front 2 rfl
            clear S13
            refine J.run 3 K7_14 [(43, .bool (decide ((t.size : Int) > 8000))), (10, .pointer (some ⟨b3, 0, none⟩)), (32, .int .i64 i), (31, .int .i64 (((tkF s).l).length : Int)), (30, .slice ra1 (((tkF s).l).length) rc1), (8, .pointer (some ⟨b2, 0, none⟩)), (5, .slice ra1 (((tkF s).l).length) rc1), (1, .int .u8 b)] w9 (by kernel_rfl) ?_
            by_cases fk5 : (t.size : Int) > 8000
            · skip
              refine J.head (.bool true) (congrArg Value.bool (decide_eq_true fk5)) ?_
              refine J.run 5 K7_15 [(4, .bool false)] w9 (by kernel_rfl) ?_
              refine J.ret Tryd.f7 [.bool false] Tryd.func7 ⟨by kernel_rfl, trivial⟩ ?_
              refine hR _ _ ?_
              exfalso
              omega
            · skip
              refine J.head (.bool false) (congrArg Value.bool (decide_eq_false fk5)) ?_
              refine J.run 4 K7_16 [(10, .pointer (some ⟨b3, 0, none⟩)), (32, .int .i64 i), (31, .int .i64 (((tkF s).l).length : Int)), (30, .slice ra1 (((tkF s).l).length) rc1), (8, .pointer (some ⟨b2, 0, none⟩)), (5, .slice ra1 (((tkF s).l).length) rc1), (1, .int .u8 b)] w9 (by kernel_rfl) ?_
              refine J.newSlice S14 44 3 [.string ⟨#[32]⟩, .string ⟨#[9, 32]⟩, .string ⟨#[32, 32, 32]⟩] 9 (by kernel_rfl) ?_
              intro b4 w10 S15
              refine J.run 2 K7_17 [(46, .int .u8 (Int.tmod b 3)), (44, .slice (some ⟨b4, 0, none⟩) 3 3), (10, .pointer (some ⟨b3, 0, none⟩)), (32, .int .i64 i), (31, .int .i64 (((tkF s).l).length : Int)), (30, .slice ra1 (((tkF s).l).length) rc1), (8, .pointer (some ⟨b2, 0, none⟩)), (5, .slice ra1 (((tkF s).l).length) rc1), (1, .int .u8 b)] w10 (by kernel_rfl) ?_
              refine J.head (.int .u8 (b % 3)) (congrArg (Value.int .u8) (IntWalk.rem_in _ _ (by omega))) ?_
              obtain ⟨p2, hp2, hc2⟩ := (show Ones Value.string w10 (some ⟨b4, 0, none⟩) 3 [⟨#[32]⟩, ⟨#[9, 32]⟩, ⟨#[32, 32, 32]⟩] from ⟨rfl, box_cells (S15.nth 0 rfl)⟩).at ByteArray.empty (b % 3).toNat (by omega)
              refine J.ok (OK.index 47 33 1 (some ⟨b4, 0, none⟩) p2 3 (b % 3).toNat (b % 3) (p2.add (b % 3).toNat) (by kernel_rfl) (by kernel_rfl) hp2 (by omega) (by omega) (by rw [Nat.mul_one])) ?_
              refine J.ok (OK.ldCell 48 9 (p2.add (b % 3).toNat) (.string (([⟨#[32]⟩, ⟨#[9, 32]⟩, ⟨#[32, 32, 32]⟩]).getD (b % 3).toNat ByteArray.empty)) (by kernel_rfl) (by kernel_rfl) hc2) ?_
              have S16 : Sep w [rowOf enc8 ra rc 5 1 (ls t), box b4 [.string ⟨#[32]⟩, .string ⟨#[9, 32]⟩, .string ⟨#[32, 32, 32]⟩] 9, box b3 [.int .i64 ((((tkF s).l).getD (i).toNat (⟨0, ByteArray.empty, 0, 0⟩ : Tk)).gKind), .string ((((tkF s).l).getD (i).toNat (⟨0, ByteArray.empty, 0, 0⟩ : Tk)).gText), .int .i64 ((((tkF s).l).getD (i).toNat (⟨0, ByteArray.empty, 0, 0⟩ : Tk)).gPlace_Line), .int .i64 ((((tkF s).l).getD (i).toNat (⟨0, ByteArray.empty, 0, 0⟩ : Tk)).gPlace_Column)] 36, box b2 [.pointer pp, .slice ra ((ls t).length) rc] 49, box b1 [.int .i64 ((tkF s).pl), .int .i64 ((tkF s).pc)] 25, rowOf tkE ra1 rc1 36 4 ((tkF s).l)] w10 := S15.front 2 rfl
              have S17 : Sep w [box b2 [.pointer pp, .slice ra ((ls t).length) rc] 49, rowOf enc8 ra rc 5 1 (ls t), box b4 [.string ⟨#[32]⟩, .string ⟨#[9, 32]⟩, .string ⟨#[32, 32, 32]⟩] 9, box b3 [.int .i64 ((((tkF s).l).getD (i).toNat (⟨0, ByteArray.empty, 0, 0⟩ : Tk)).gKind), .string ((((tkF s).l).getD (i).toNat (⟨0, ByteArray.empty, 0, 0⟩ : Tk)).gText), .int .i64 ((((tkF s).l).getD (i).toNat (⟨0, ByteArray.empty, 0, 0⟩ : Tk)).gPlace_Line), .int .i64 ((((tkF s).l).getD (i).toNat (⟨0, ByteArray.empty, 0, 0⟩ : Tk)).gPlace_Column)] 36, box b1 [.int .i64 ((tkF s).pl), .int .i64 ((tkF s).pc)] 25, rowOf tkE ra1 rc1 36 4 ((tkF s).l)] w10 := S16.front 3 rfl
              refine J.callF 49 23 #[.pointer (some ⟨b2, 0, none⟩), .string (([⟨#[32]⟩, ⟨#[9, 32]⟩, ⟨#[32, 32, 32]⟩]).getD (b % 3).toNat ByteArray.empty)] hb23 (by kernel_rfl) (bwrite_any b2 pp ra rc t (([⟨#[32]⟩, ⟨#[9, 32]⟩, ⟨#[32, 32, 32]⟩]).getD (b % 3).toNat ByteArray.empty) _ _ _ S17 (by first | assumption | exact .inl rfl | exact .inr rfl) (by first | omega | (simp only [ByteArray.size_append]; omega) | (simp only [ByteArray.size_append, lit_size, List.size_toArray, List.length_cons, List.length_nil]; omega) | (simp; omega))) ?_
              rintro _ w11 ⟨rfl, ra2, rc2, S18⟩
              replace S18 : Sep w [box b2 [.pointer (some ⟨b2, 0, none⟩), .slice ra2 ((ls (t ++ (([⟨#[32]⟩, ⟨#[9, 32]⟩, ⟨#[32, 32, 32]⟩]).getD (b % 3).toNat ByteArray.empty))).length) rc2] 49, rowOf enc8 ra2 rc2 5 1 (ls (t ++ (([⟨#[32]⟩, ⟨#[9, 32]⟩, ⟨#[32, 32, 32]⟩]).getD (b % 3).toNat ByteArray.empty))), box b4 [.string ⟨#[32]⟩, .string ⟨#[9, 32]⟩, .string ⟨#[32, 32, 32]⟩] 9, box b3 [.int .i64 ((((tkF s).l).getD (i).toNat (⟨0, ByteArray.empty, 0, 0⟩ : Tk)).gKind), .string ((((tkF s).l).getD (i).toNat (⟨0, ByteArray.empty, 0, 0⟩ : Tk)).gText), .int .i64 ((((tkF s).l).getD (i).toNat (⟨0, ByteArray.empty, 0, 0⟩ : Tk)).gPlace_Line), .int .i64 ((((tkF s).l).getD (i).toNat (⟨0, ByteArray.empty, 0, 0⟩ : Tk)).gPlace_Column)] 36, box b1 [.int .i64 ((tkF s).pl), .int .i64 ((tkF s).pc)] 25, rowOf tkE ra1 rc1 36 4 ((tkF s).l)] w11 := S18
              have S19 : Sep w [rowOf enc8 ra2 rc2 5 1 (ls (t ++ (([⟨#[32]⟩, ⟨#[9, 32]⟩, ⟨#[32, 32, 32]⟩]).getD (b % 3).toNat ByteArray.empty))), box b2 [.pointer (some ⟨b2, 0, none⟩), .slice ra2 ((ls (t ++ (([⟨#[32]⟩, ⟨#[9, 32]⟩, ⟨#[32, 32, 32]⟩]).getD (b % 3).toNat ByteArray.empty))).length) rc2] 49, box b4 [.string ⟨#[32]⟩, .string ⟨#[9, 32]⟩, .string ⟨#[32, 32, 32]⟩] 9, box b3 [.int .i64 ((((tkF s).l).getD (i).toNat (⟨0, ByteArray.empty, 0, 0⟩ : Tk)).gKind), .string ((((tkF s).l).getD (i).toNat (⟨0, ByteArray.empty, 0, 0⟩ : Tk)).gText), .int .i64 ((((tkF s).l).getD (i).toNat (⟨0, ByteArray.empty, 0, 0⟩ : Tk)).gPlace_Line), .int .i64 ((((tkF s).l).getD (i).toNat (⟨0, ByteArray.empty, 0, 0⟩ : Tk)).gPlace_Column)] 36, box b1 [.int .i64 ((tkF s).pl), .int .i64 ((tkF s).pc)] 25, rowOf tkE ra1 rc1 36 4 ((tkF s).l)] w11 := S18.front 1 rfl
              clear S18
              have S20 : Sep w [box b3 [.int .i64 ((((tkF s).l).getD (i).toNat (⟨0, ByteArray.empty, 0, 0⟩ : Tk)).gKind), .string ((((tkF s).l).getD (i).toNat (⟨0, ByteArray.empty, 0, 0⟩ : Tk)).gText), .int .i64 ((((tkF s).l).getD (i).toNat (⟨0, ByteArray.empty, 0, 0⟩ : Tk)).gPlace_Line), .int .i64 ((((tkF s).l).getD (i).toNat (⟨0, ByteArray.empty, 0, 0⟩ : Tk)).gPlace_Column)] 36, rowOf enc8 ra2 rc2 5 1 (ls (t ++ (([⟨#[32]⟩, ⟨#[9, 32]⟩, ⟨#[32, 32, 32]⟩]).getD (b % 3).toNat ByteArray.empty))), box b2 [.pointer (some ⟨b2, 0, none⟩), .slice ra2 ((ls (t ++ (([⟨#[32]⟩, ⟨#[9, 32]⟩, ⟨#[32, 32, 32]⟩]).getD (b % 3).toNat ByteArray.empty))).length) rc2] 49, box b4 [.string ⟨#[32]⟩, .string ⟨#[9, 32]⟩, .string ⟨#[32, 32, 32]⟩] 9, box b1 [.int .i64 ((tkF s).pl), .int .i64 ((tkF s).pc)] 25, rowOf tkE ra1 rc1 36 4 ((tkF s).l)] w11 := S19.front 3 rfl
              clear S19
              have S21 : Sep w [box b4 [.string ⟨#[32]⟩, .string ⟨#[9, 32]⟩, .string ⟨#[32, 32, 32]⟩] 9, box b3 [.int .i64 ((((tkF s).l).getD (i).toNat (⟨0, ByteArray.empty, 0, 0⟩ : Tk)).gKind), .string ((((tkF s).l).getD (i).toNat (⟨0, ByteArray.empty, 0, 0⟩ : Tk)).gText), .int .i64 ((((tkF s).l).getD (i).toNat (⟨0, ByteArray.empty, 0, 0⟩ : Tk)).gPlace_Line), .int .i64 ((((tkF s).l).getD (i).toNat (⟨0, ByteArray.empty, 0, 0⟩ : Tk)).gPlace_Column)] 36, rowOf enc8 ra2 rc2 5 1 (ls (t ++ (([⟨#[32]⟩, ⟨#[9, 32]⟩, ⟨#[32, 32, 32]⟩]).getD (b % 3).toNat ByteArray.empty))), box b2 [.pointer (some ⟨b2, 0, none⟩), .slice ra2 ((ls (t ++ (([⟨#[32]⟩, ⟨#[9, 32]⟩, ⟨#[32, 32, 32]⟩]).getD (b % 3).toNat ByteArray.empty))).length) rc2] 49, box b1 [.int .i64 ((tkF s).pl), .int .i64 ((tkF s).pc)] 25, rowOf tkE ra1 rc1 36 4 ((tkF s).l)] w11 := S20.front 3 rfl
              clear S20
              refine J.run 4 K7_18 [(50, .pointer (some ⟨b3, 0, none⟩)), (10, .pointer (some ⟨b3, 0, none⟩)), (32, .int .i64 i), (31, .int .i64 (((tkF s).l).length : Int)), (30, .slice ra1 (((tkF s).l).length) rc1), (8, .pointer (some ⟨b2, 0, none⟩)), (5, .slice ra1 (((tkF s).l).length) rc1), (1, .int .u8 b)] w11 (by kernel_rfl) ?_
              refine J.ok (OK.ldBox S21 1 51 3 0 (.int .i64 ((((tkF s).l).getD (i).toNat (⟨0, ByteArray.empty, 0, 0⟩ : Tk)).gKind)) (by kernel_rfl) rfl (by kernel_rfl)) ?_
              refine J.run 2 K7_19 [(52, .bool (((((tkF s).l).getD (i).toNat (⟨0, ByteArray.empty, 0, 0⟩ : Tk)).gKind) == 4)), (10, .pointer (some ⟨b3, 0, none⟩)), (32, .int .i64 i), (31, .int .i64 (((tkF s).l).length : Int)), (30, .slice ra1 (((tkF s).l).length) rc1), (8, .pointer (some ⟨b2, 0, none⟩)), (5, .slice ra1 (((tkF s).l).length) rc1), (1, .int .u8 b)] w11 (by kernel_rfl) ?_
              by_cases fk6 : ((((tkF s).l).getD (i).toNat (⟨0, ByteArray.empty, 0, 0⟩ : Tk)).gKind) = 4
              · skip
                refine J.head (.bool true) (congrArg Value.bool (beq_iff_eq.2 fk6)) ?_
                refine J.run 2 K7_20 [(32, .int .i64 i), (31, .int .i64 (((tkF s).l).length : Int)), (30, .slice ra1 (((tkF s).l).length) rc1), (8, .pointer (some ⟨b2, 0, none⟩)), (5, .slice ra1 (((tkF s).l).length) rc1), (1, .int .u8 b)] w11 (by kernel_rfl) ?_
                refine J.newSlice S21 53 3 [.string ⟨#[10]⟩, .string ⟨#[35, 32, 97, 32, 99, 111, 109, 109, 101, 110, 116, 10, 10]⟩, .string ⟨#[32, 35, 10, 32, 32, 10]⟩] 9 (by kernel_rfl) ?_
                intro b5 w12 S22
                refine J.run 2 K7_21 [(55, .int .u8 (Int.tmod b 3)), (53, .slice (some ⟨b5, 0, none⟩) 3 3), (32, .int .i64 i), (31, .int .i64 (((tkF s).l).length : Int)), (30, .slice ra1 (((tkF s).l).length) rc1), (8, .pointer (some ⟨b2, 0, none⟩)), (5, .slice ra1 (((tkF s).l).length) rc1), (1, .int .u8 b)] w12 (by kernel_rfl) ?_
                refine J.head (.int .u8 (b % 3)) (congrArg (Value.int .u8) (IntWalk.rem_in _ _ (by omega))) ?_
                obtain ⟨p3, hp3, hc3⟩ := (show Ones Value.string w12 (some ⟨b5, 0, none⟩) 3 [⟨#[10]⟩, ⟨#[35, 32, 97, 32, 99, 111, 109, 109, 101, 110, 116, 10, 10]⟩, ⟨#[32, 35, 10, 32, 32, 10]⟩] from ⟨rfl, box_cells (S22.nth 0 rfl)⟩).at ByteArray.empty (b % 3).toNat (by omega)
                refine J.ok (OK.index 56 33 1 (some ⟨b5, 0, none⟩) p3 3 (b % 3).toNat (b % 3) (p3.add (b % 3).toNat) (by kernel_rfl) (by kernel_rfl) hp3 (by omega) (by omega) (by rw [Nat.mul_one])) ?_
                refine J.ok (OK.ldCell 57 9 (p3.add (b % 3).toNat) (.string (([⟨#[10]⟩, ⟨#[35, 32, 97, 32, 99, 111, 109, 109, 101, 110, 116, 10, 10]⟩, ⟨#[32, 35, 10, 32, 32, 10]⟩]).getD (b % 3).toNat ByteArray.empty)) (by kernel_rfl) (by kernel_rfl) hc3) ?_
                have S23 : Sep w [rowOf enc8 ra2 rc2 5 1 (ls (t ++ (([⟨#[32]⟩, ⟨#[9, 32]⟩, ⟨#[32, 32, 32]⟩]).getD (b % 3).toNat ByteArray.empty))), box b5 [.string ⟨#[10]⟩, .string ⟨#[35, 32, 97, 32, 99, 111, 109, 109, 101, 110, 116, 10, 10]⟩, .string ⟨#[32, 35, 10, 32, 32, 10]⟩] 9, box b4 [.string ⟨#[32]⟩, .string ⟨#[9, 32]⟩, .string ⟨#[32, 32, 32]⟩] 9, box b3 [.int .i64 ((((tkF s).l).getD (i).toNat (⟨0, ByteArray.empty, 0, 0⟩ : Tk)).gKind), .string ((((tkF s).l).getD (i).toNat (⟨0, ByteArray.empty, 0, 0⟩ : Tk)).gText), .int .i64 ((((tkF s).l).getD (i).toNat (⟨0, ByteArray.empty, 0, 0⟩ : Tk)).gPlace_Line), .int .i64 ((((tkF s).l).getD (i).toNat (⟨0, ByteArray.empty, 0, 0⟩ : Tk)).gPlace_Column)] 36, box b2 [.pointer (some ⟨b2, 0, none⟩), .slice ra2 ((ls (t ++ (([⟨#[32]⟩, ⟨#[9, 32]⟩, ⟨#[32, 32, 32]⟩]).getD (b % 3).toNat ByteArray.empty))).length) rc2] 49, box b1 [.int .i64 ((tkF s).pl), .int .i64 ((tkF s).pc)] 25, rowOf tkE ra1 rc1 36 4 ((tkF s).l)] w12 := S22.front 3 rfl
                have S24 : Sep w [box b2 [.pointer (some ⟨b2, 0, none⟩), .slice ra2 ((ls (t ++ (([⟨#[32]⟩, ⟨#[9, 32]⟩, ⟨#[32, 32, 32]⟩]).getD (b % 3).toNat ByteArray.empty))).length) rc2] 49, rowOf enc8 ra2 rc2 5 1 (ls (t ++ (([⟨#[32]⟩, ⟨#[9, 32]⟩, ⟨#[32, 32, 32]⟩]).getD (b % 3).toNat ByteArray.empty))), box b5 [.string ⟨#[10]⟩, .string ⟨#[35, 32, 97, 32, 99, 111, 109, 109, 101, 110, 116, 10, 10]⟩, .string ⟨#[32, 35, 10, 32, 32, 10]⟩] 9, box b4 [.string ⟨#[32]⟩, .string ⟨#[9, 32]⟩, .string ⟨#[32, 32, 32]⟩] 9, box b3 [.int .i64 ((((tkF s).l).getD (i).toNat (⟨0, ByteArray.empty, 0, 0⟩ : Tk)).gKind), .string ((((tkF s).l).getD (i).toNat (⟨0, ByteArray.empty, 0, 0⟩ : Tk)).gText), .int .i64 ((((tkF s).l).getD (i).toNat (⟨0, ByteArray.empty, 0, 0⟩ : Tk)).gPlace_Line), .int .i64 ((((tkF s).l).getD (i).toNat (⟨0, ByteArray.empty, 0, 0⟩ : Tk)).gPlace_Column)] 36, box b1 [.int .i64 ((tkF s).pl), .int .i64 ((tkF s).pc)] 25, rowOf tkE ra1 rc1 36 4 ((tkF s).l)] w12 := S23.front 4 rfl
                refine J.callF 58 23 #[.pointer (some ⟨b2, 0, none⟩), .string (([⟨#[10]⟩, ⟨#[35, 32, 97, 32, 99, 111, 109, 109, 101, 110, 116, 10, 10]⟩, ⟨#[32, 35, 10, 32, 32, 10]⟩]).getD (b % 3).toNat ByteArray.empty)] hb23 (by kernel_rfl) (bwrite_any b2 (some ⟨b2, 0, none⟩) ra2 rc2 (t ++ (([⟨#[32]⟩, ⟨#[9, 32]⟩, ⟨#[32, 32, 32]⟩]).getD (b % 3).toNat ByteArray.empty)) (([⟨#[10]⟩, ⟨#[35, 32, 97, 32, 99, 111, 109, 109, 101, 110, 116, 10, 10]⟩, ⟨#[32, 35, 10, 32, 32, 10]⟩]).getD (b % 3).toNat ByteArray.empty) _ _ _ S24 (by first | assumption | exact .inl rfl | exact .inr rfl) (by first | omega | (simp only [ByteArray.size_append]; omega) | (simp only [ByteArray.size_append, lit_size, List.size_toArray, List.length_cons, List.length_nil]; omega) | (simp; omega))) ?_
                rintro _ w13 ⟨rfl, ra3, rc3, S25⟩
                replace S25 : Sep w [box b2 [.pointer (some ⟨b2, 0, none⟩), .slice ra3 ((ls ((t ++ (([⟨#[32]⟩, ⟨#[9, 32]⟩, ⟨#[32, 32, 32]⟩]).getD (b % 3).toNat ByteArray.empty)) ++ (([⟨#[10]⟩, ⟨#[35, 32, 97, 32, 99, 111, 109, 109, 101, 110, 116, 10, 10]⟩, ⟨#[32, 35, 10, 32, 32, 10]⟩]).getD (b % 3).toNat ByteArray.empty))).length) rc3] 49, rowOf enc8 ra3 rc3 5 1 (ls ((t ++ (([⟨#[32]⟩, ⟨#[9, 32]⟩, ⟨#[32, 32, 32]⟩]).getD (b % 3).toNat ByteArray.empty)) ++ (([⟨#[10]⟩, ⟨#[35, 32, 97, 32, 99, 111, 109, 109, 101, 110, 116, 10, 10]⟩, ⟨#[32, 35, 10, 32, 32, 10]⟩]).getD (b % 3).toNat ByteArray.empty))), box b5 [.string ⟨#[10]⟩, .string ⟨#[35, 32, 97, 32, 99, 111, 109, 109, 101, 110, 116, 10, 10]⟩, .string ⟨#[32, 35, 10, 32, 32, 10]⟩] 9, box b4 [.string ⟨#[32]⟩, .string ⟨#[9, 32]⟩, .string ⟨#[32, 32, 32]⟩] 9, box b3 [.int .i64 ((((tkF s).l).getD (i).toNat (⟨0, ByteArray.empty, 0, 0⟩ : Tk)).gKind), .string ((((tkF s).l).getD (i).toNat (⟨0, ByteArray.empty, 0, 0⟩ : Tk)).gText), .int .i64 ((((tkF s).l).getD (i).toNat (⟨0, ByteArray.empty, 0, 0⟩ : Tk)).gPlace_Line), .int .i64 ((((tkF s).l).getD (i).toNat (⟨0, ByteArray.empty, 0, 0⟩ : Tk)).gPlace_Column)] 36, box b1 [.int .i64 ((tkF s).pl), .int .i64 ((tkF s).pc)] 25, rowOf tkE ra1 rc1 36 4 ((tkF s).l)] w13 := S25
                have S26 : Sep w [rowOf enc8 ra3 rc3 5 1 (ls ((t ++ (([⟨#[32]⟩, ⟨#[9, 32]⟩, ⟨#[32, 32, 32]⟩]).getD (b % 3).toNat ByteArray.empty)) ++ (([⟨#[10]⟩, ⟨#[35, 32, 97, 32, 99, 111, 109, 109, 101, 110, 116, 10, 10]⟩, ⟨#[32, 35, 10, 32, 32, 10]⟩]).getD (b % 3).toNat ByteArray.empty))), box b2 [.pointer (some ⟨b2, 0, none⟩), .slice ra3 ((ls ((t ++ (([⟨#[32]⟩, ⟨#[9, 32]⟩, ⟨#[32, 32, 32]⟩]).getD (b % 3).toNat ByteArray.empty)) ++ (([⟨#[10]⟩, ⟨#[35, 32, 97, 32, 99, 111, 109, 109, 101, 110, 116, 10, 10]⟩, ⟨#[32, 35, 10, 32, 32, 10]⟩]).getD (b % 3).toNat ByteArray.empty))).length) rc3] 49, box b5 [.string ⟨#[10]⟩, .string ⟨#[35, 32, 97, 32, 99, 111, 109, 109, 101, 110, 116, 10, 10]⟩, .string ⟨#[32, 35, 10, 32, 32, 10]⟩] 9, box b4 [.string ⟨#[32]⟩, .string ⟨#[9, 32]⟩, .string ⟨#[32, 32, 32]⟩] 9, box b3 [.int .i64 ((((tkF s).l).getD (i).toNat (⟨0, ByteArray.empty, 0, 0⟩ : Tk)).gKind), .string ((((tkF s).l).getD (i).toNat (⟨0, ByteArray.empty, 0, 0⟩ : Tk)).gText), .int .i64 ((((tkF s).l).getD (i).toNat (⟨0, ByteArray.empty, 0, 0⟩ : Tk)).gPlace_Line), .int .i64 ((((tkF s).l).getD (i).toNat (⟨0, ByteArray.empty, 0, 0⟩ : Tk)).gPlace_Column)] 36, box b1 [.int .i64 ((tkF s).pl), .int .i64 ((tkF s).pc)] 25, rowOf tkE ra1 rc1 36 4 ((tkF s).l)] w13 := S25.front 1 rfl
                clear S25
                have S27 : Sep w [box b3 [.int .i64 ((((tkF s).l).getD (i).toNat (⟨0, ByteArray.empty, 0, 0⟩ : Tk)).gKind), .string ((((tkF s).l).getD (i).toNat (⟨0, ByteArray.empty, 0, 0⟩ : Tk)).gText), .int .i64 ((((tkF s).l).getD (i).toNat (⟨0, ByteArray.empty, 0, 0⟩ : Tk)).gPlace_Line), .int .i64 ((((tkF s).l).getD (i).toNat (⟨0, ByteArray.empty, 0, 0⟩ : Tk)).gPlace_Column)] 36, rowOf enc8 ra3 rc3 5 1 (ls ((t ++ (([⟨#[32]⟩, ⟨#[9, 32]⟩, ⟨#[32, 32, 32]⟩]).getD (b % 3).toNat ByteArray.empty)) ++ (([⟨#[10]⟩, ⟨#[35, 32, 97, 32, 99, 111, 109, 109, 101, 110, 116, 10, 10]⟩, ⟨#[32, 35, 10, 32, 32, 10]⟩]).getD (b % 3).toNat ByteArray.empty))), box b2 [.pointer (some ⟨b2, 0, none⟩), .slice ra3 ((ls ((t ++ (([⟨#[32]⟩, ⟨#[9, 32]⟩, ⟨#[32, 32, 32]⟩]).getD (b % 3).toNat ByteArray.empty)) ++ (([⟨#[10]⟩, ⟨#[35, 32, 97, 32, 99, 111, 109, 109, 101, 110, 116, 10, 10]⟩, ⟨#[32, 35, 10, 32, 32, 10]⟩]).getD (b % 3).toNat ByteArray.empty))).length) rc3] 49, box b5 [.string ⟨#[10]⟩, .string ⟨#[35, 32, 97, 32, 99, 111, 109, 109, 101, 110, 116, 10, 10]⟩, .string ⟨#[32, 35, 10, 32, 32, 10]⟩] 9, box b4 [.string ⟨#[32]⟩, .string ⟨#[9, 32]⟩, .string ⟨#[32, 32, 32]⟩] 9, box b1 [.int .i64 ((tkF s).pl), .int .i64 ((tkF s).pc)] 25, rowOf tkE ra1 rc1 36 4 ((tkF s).l)] w13 := S26.front 4 rfl
                clear S26
                have S28 : Sep w [box b4 [.string ⟨#[32]⟩, .string ⟨#[9, 32]⟩, .string ⟨#[32, 32, 32]⟩] 9, box b3 [.int .i64 ((((tkF s).l).getD (i).toNat (⟨0, ByteArray.empty, 0, 0⟩ : Tk)).gKind), .string ((((tkF s).l).getD (i).toNat (⟨0, ByteArray.empty, 0, 0⟩ : Tk)).gText), .int .i64 ((((tkF s).l).getD (i).toNat (⟨0, ByteArray.empty, 0, 0⟩ : Tk)).gPlace_Line), .int .i64 ((((tkF s).l).getD (i).toNat (⟨0, ByteArray.empty, 0, 0⟩ : Tk)).gPlace_Column)] 36, rowOf enc8 ra3 rc3 5 1 (ls ((t ++ (([⟨#[32]⟩, ⟨#[9, 32]⟩, ⟨#[32, 32, 32]⟩]).getD (b % 3).toNat ByteArray.empty)) ++ (([⟨#[10]⟩, ⟨#[35, 32, 97, 32, 99, 111, 109, 109, 101, 110, 116, 10, 10]⟩, ⟨#[32, 35, 10, 32, 32, 10]⟩]).getD (b % 3).toNat ByteArray.empty))), box b2 [.pointer (some ⟨b2, 0, none⟩), .slice ra3 ((ls ((t ++ (([⟨#[32]⟩, ⟨#[9, 32]⟩, ⟨#[32, 32, 32]⟩]).getD (b % 3).toNat ByteArray.empty)) ++ (([⟨#[10]⟩, ⟨#[35, 32, 97, 32, 99, 111, 109, 109, 101, 110, 116, 10, 10]⟩, ⟨#[32, 35, 10, 32, 32, 10]⟩]).getD (b % 3).toNat ByteArray.empty))).length) rc3] 49, box b5 [.string ⟨#[10]⟩, .string ⟨#[35, 32, 97, 32, 99, 111, 109, 109, 101, 110, 116, 10, 10]⟩, .string ⟨#[32, 35, 10, 32, 32, 10]⟩] 9, box b1 [.int .i64 ((tkF s).pl), .int .i64 ((tkF s).pc)] 25, rowOf tkE ra1 rc1 36 4 ((tkF s).l)] w13 := S27.front 4 rfl
                clear S27
                have S29 : Sep w [box b5 [.string ⟨#[10]⟩, .string ⟨#[35, 32, 97, 32, 99, 111, 109, 109, 101, 110, 116, 10, 10]⟩, .string ⟨#[32, 35, 10, 32, 32, 10]⟩] 9, box b4 [.string ⟨#[32]⟩, .string ⟨#[9, 32]⟩, .string ⟨#[32, 32, 32]⟩] 9, box b3 [.int .i64 ((((tkF s).l).getD (i).toNat (⟨0, ByteArray.empty, 0, 0⟩ : Tk)).gKind), .string ((((tkF s).l).getD (i).toNat (⟨0, ByteArray.empty, 0, 0⟩ : Tk)).gText), .int .i64 ((((tkF s).l).getD (i).toNat (⟨0, ByteArray.empty, 0, 0⟩ : Tk)).gPlace_Line), .int .i64 ((((tkF s).l).getD (i).toNat (⟨0, ByteArray.empty, 0, 0⟩ : Tk)).gPlace_Column)] 36, rowOf enc8 ra3 rc3 5 1 (ls ((t ++ (([⟨#[32]⟩, ⟨#[9, 32]⟩, ⟨#[32, 32, 32]⟩]).getD (b % 3).toNat ByteArray.empty)) ++ (([⟨#[10]⟩, ⟨#[35, 32, 97, 32, 99, 111, 109, 109, 101, 110, 116, 10, 10]⟩, ⟨#[32, 35, 10, 32, 32, 10]⟩]).getD (b % 3).toNat ByteArray.empty))), box b2 [.pointer (some ⟨b2, 0, none⟩), .slice ra3 ((ls ((t ++ (([⟨#[32]⟩, ⟨#[9, 32]⟩, ⟨#[32, 32, 32]⟩]).getD (b % 3).toNat ByteArray.empty)) ++ (([⟨#[10]⟩, ⟨#[35, 32, 97, 32, 99, 111, 109, 109, 101, 110, 116, 10, 10]⟩, ⟨#[32, 35, 10, 32, 32, 10]⟩]).getD (b % 3).toNat ByteArray.empty))).length) rc3] 49, box b1 [.int .i64 ((tkF s).pl), .int .i64 ((tkF s).pc)] 25, rowOf tkE ra1 rc1 36 4 ((tkF s).l)] w13 := S28.front 4 rfl
                clear S28
                refine J.run 4 K7_22 [(62, .int .i64 (IntKind.wrap .i64 (i + 1))), (31, .int .i64 (((tkF s).l).length : Int)), (30, .slice ra1 (((tkF s).l).length) rc1), (8, .pointer (some ⟨b2, 0, none⟩)), (5, .slice ra1 (((tkF s).l).length) rc1), (1, .int .u8 b)] w13 (by kernel_rfl) ?_
                refine J.head (.int .i64 (i + 1)) (congrArg (Value.int .i64) (IntWalk.i64_in _ (by omega))) ?_
                refine J.run 3 K7_8 [(32, .int .i64 (i + 1)), (31, .int .i64 (((tkF s).l).length : Int)), (30, .slice ra1 (((tkF s).l).length) rc1), (8, .pointer (some ⟨b2, 0, none⟩)), (5, .slice ra1 (((tkF s).l).length) rc1), (1, .int .u8 b)] w13 (by kernel_rfl) ?_
                have S30 : Sep w [box b5 [.string ⟨#[10]⟩, .string ⟨#[35, 32, 97, 32, 99, 111, 109, 109, 101, 110, 116, 10, 10]⟩, .string ⟨#[32, 35, 10, 32, 32, 10]⟩] 9, box b4 [.string ⟨#[32]⟩, .string ⟨#[9, 32]⟩, .string ⟨#[32, 32, 32]⟩] 9, rowOf enc8 ra3 rc3 5 1 (ls ((t ++ (([⟨#[32]⟩, ⟨#[9, 32]⟩, ⟨#[32, 32, 32]⟩]).getD (b % 3).toNat ByteArray.empty)) ++ (([⟨#[10]⟩, ⟨#[35, 32, 97, 32, 99, 111, 109, 109, 101, 110, 116, 10, 10]⟩, ⟨#[32, 35, 10, 32, 32, 10]⟩]).getD (b % 3).toNat ByteArray.empty))), box b2 [.pointer (some ⟨b2, 0, none⟩), .slice ra3 ((ls ((t ++ (([⟨#[32]⟩, ⟨#[9, 32]⟩, ⟨#[32, 32, 32]⟩]).getD (b % 3).toNat ByteArray.empty)) ++ (([⟨#[10]⟩, ⟨#[35, 32, 97, 32, 99, 111, 109, 109, 101, 110, 116, 10, 10]⟩, ⟨#[32, 35, 10, 32, 32, 10]⟩]).getD (b % 3).toNat ByteArray.empty))).length) rc3] 49, box b1 [.int .i64 ((tkF s).pl), .int .i64 ((tkF s).pc)] 25, rowOf tkE ra1 rc1 36 4 ((tkF s).l)] w13 := S29.erase 2
                clear S29
                have S31 : Sep w [box b5 [.string ⟨#[10]⟩, .string ⟨#[35, 32, 97, 32, 99, 111, 109, 109, 101, 110, 116, 10, 10]⟩, .string ⟨#[32, 35, 10, 32, 32, 10]⟩] 9, rowOf enc8 ra3 rc3 5 1 (ls ((t ++ (([⟨#[32]⟩, ⟨#[9, 32]⟩, ⟨#[32, 32, 32]⟩]).getD (b % 3).toNat ByteArray.empty)) ++ (([⟨#[10]⟩, ⟨#[35, 32, 97, 32, 99, 111, 109, 109, 101, 110, 116, 10, 10]⟩, ⟨#[32, 35, 10, 32, 32, 10]⟩]).getD (b % 3).toNat ByteArray.empty))), box b2 [.pointer (some ⟨b2, 0, none⟩), .slice ra3 ((ls ((t ++ (([⟨#[32]⟩, ⟨#[9, 32]⟩, ⟨#[32, 32, 32]⟩]).getD (b % 3).toNat ByteArray.empty)) ++ (([⟨#[10]⟩, ⟨#[35, 32, 97, 32, 99, 111, 109, 109, 101, 110, 116, 10, 10]⟩, ⟨#[32, 35, 10, 32, 32, 10]⟩]).getD (b % 3).toNat ByteArray.empty))).length) rc3] 49, box b1 [.int .i64 ((tkF s).pl), .int .i64 ((tkF s).pc)] 25, rowOf tkE ra1 rc1 36 4 ((tkF s).l)] w13 := S30.erase 1
                clear S30
                have S32 : Sep w [rowOf enc8 ra3 rc3 5 1 (ls ((t ++ (([⟨#[32]⟩, ⟨#[9, 32]⟩, ⟨#[32, 32, 32]⟩]).getD (b % 3).toNat ByteArray.empty)) ++ (([⟨#[10]⟩, ⟨#[35, 32, 97, 32, 99, 111, 109, 109, 101, 110, 116, 10, 10]⟩, ⟨#[32, 35, 10, 32, 32, 10]⟩]).getD (b % 3).toNat ByteArray.empty))), box b2 [.pointer (some ⟨b2, 0, none⟩), .slice ra3 ((ls ((t ++ (([⟨#[32]⟩, ⟨#[9, 32]⟩, ⟨#[32, 32, 32]⟩]).getD (b % 3).toNat ByteArray.empty)) ++ (([⟨#[10]⟩, ⟨#[35, 32, 97, 32, 99, 111, 109, 109, 101, 110, 116, 10, 10]⟩, ⟨#[32, 35, 10, 32, 32, 10]⟩]).getD (b % 3).toNat ByteArray.empty))).length) rc3] 49, box b1 [.int .i64 ((tkF s).pl), .int .i64 ((tkF s).pc)] 25, rowOf tkE ra1 rc1 36 4 ((tkF s).l)] w13 := S31.erase 0
                clear S31
                refine J.run 0 K7_8 [(32, .int .i64 (i + 1)), (31, .int .i64 (((tkF s).l).length : Int)), (30, .slice ra1 (((tkF s).l).length) rc1), (8, .pointer (some ⟨b2, 0, none⟩)), (5, .slice ra1 (((tkF s).l).length) rc1), (1, .int .u8 b)] w13 (by kernel_rfl) ?_
                exact ih1 _ (show (((tkF s).l.length : Int) - (i + 1)).toNat < mm1 from by omega) (some ⟨b2, 0, none⟩) ra3 rc3 ((t ++ (([⟨#[32]⟩, ⟨#[9, 32]⟩, ⟨#[32, 32, 32]⟩]).getD (b % 3).toNat ByteArray.empty)) ++ (([⟨#[10]⟩, ⟨#[35, 32, 97, 32, 99, 111, 109, 109, 101, 110, 116, 10, 10]⟩, ⟨#[32, 35, 10, 32, 32, 10]⟩]).getD (b % 3).toNat ByteArray.empty)) (i + 1) w13 (by omega) (by omega) (.inr rfl) (by rw [back_next h0 (by omega) ht]; unfold stepB; rw [if_pos fk6]; rfl) S32 rfl
              · skip
                refine J.head (.bool false) (congrArg Value.bool (beq_eq_false_iff_ne.2 fk6)) ?_
                refine J.run 3 K7_23 [(59, .pointer (some ⟨b3, 1, none⟩)), (32, .int .i64 i), (31, .int .i64 (((tkF s).l).length : Int)), (30, .slice ra1 (((tkF s).l).length) rc1), (8, .pointer (some ⟨b2, 0, none⟩)), (5, .slice ra1 (((tkF s).l).length) rc1), (1, .int .u8 b)] w11 (by kernel_rfl) ?_
                refine J.ok (OK.ldBox S21 1 60 9 1 (.string ((((tkF s).l).getD (i).toNat (⟨0, ByteArray.empty, 0, 0⟩ : Tk)).gText)) (by kernel_rfl) rfl (by kernel_rfl)) ?_
                have S33 : Sep w [rowOf enc8 ra2 rc2 5 1 (ls (t ++ (([⟨#[32]⟩, ⟨#[9, 32]⟩, ⟨#[32, 32, 32]⟩]).getD (b % 3).toNat ByteArray.empty))), box b4 [.string ⟨#[32]⟩, .string ⟨#[9, 32]⟩, .string ⟨#[32, 32, 32]⟩] 9, box b3 [.int .i64 ((((tkF s).l).getD (i).toNat (⟨0, ByteArray.empty, 0, 0⟩ : Tk)).gKind), .string ((((tkF s).l).getD (i).toNat (⟨0, ByteArray.empty, 0, 0⟩ : Tk)).gText), .int .i64 ((((tkF s).l).getD (i).toNat (⟨0, ByteArray.empty, 0, 0⟩ : Tk)).gPlace_Line), .int .i64 ((((tkF s).l).getD (i).toNat (⟨0, ByteArray.empty, 0, 0⟩ : Tk)).gPlace_Column)] 36, box b2 [.pointer (some ⟨b2, 0, none⟩), .slice ra2 ((ls (t ++ (([⟨#[32]⟩, ⟨#[9, 32]⟩, ⟨#[32, 32, 32]⟩]).getD (b % 3).toNat ByteArray.empty))).length) rc2] 49, box b1 [.int .i64 ((tkF s).pl), .int .i64 ((tkF s).pc)] 25, rowOf tkE ra1 rc1 36 4 ((tkF s).l)] w11 := S21.front 2 rfl
                have S34 : Sep w [box b2 [.pointer (some ⟨b2, 0, none⟩), .slice ra2 ((ls (t ++ (([⟨#[32]⟩, ⟨#[9, 32]⟩, ⟨#[32, 32, 32]⟩]).getD (b % 3).toNat ByteArray.empty))).length) rc2] 49, rowOf enc8 ra2 rc2 5 1 (ls (t ++ (([⟨#[32]⟩, ⟨#[9, 32]⟩, ⟨#[32, 32, 32]⟩]).getD (b % 3).toNat ByteArray.empty))), box b4 [.string ⟨#[32]⟩, .string ⟨#[9, 32]⟩, .string ⟨#[32, 32, 32]⟩] 9, box b3 [.int .i64 ((((tkF s).l).getD (i).toNat (⟨0, ByteArray.empty, 0, 0⟩ : Tk)).gKind), .string ((((tkF s).l).getD (i).toNat (⟨0, ByteArray.empty, 0, 0⟩ : Tk)).gText), .int .i64 ((((tkF s).l).getD (i).toNat (⟨0, ByteArray.empty, 0, 0⟩ : Tk)).gPlace_Line), .int .i64 ((((tkF s).l).getD (i).toNat (⟨0, ByteArray.empty, 0, 0⟩ : Tk)).gPlace_Column)] 36, box b1 [.int .i64 ((tkF s).pl), .int .i64 ((tkF s).pc)] 25, rowOf tkE ra1 rc1 36 4 ((tkF s).l)] w11 := S33.front 3 rfl
                refine J.callF 61 23 #[.pointer (some ⟨b2, 0, none⟩), .string ((((tkF s).l).getD (i).toNat (⟨0, ByteArray.empty, 0, 0⟩ : Tk)).gText)] hb23 (by kernel_rfl) (bwrite_any b2 (some ⟨b2, 0, none⟩) ra2 rc2 (t ++ (([⟨#[32]⟩, ⟨#[9, 32]⟩, ⟨#[32, 32, 32]⟩]).getD (b % 3).toNat ByteArray.empty)) ((((tkF s).l).getD (i).toNat (⟨0, ByteArray.empty, 0, 0⟩ : Tk)).gText) _ _ _ S34 (by first | assumption | exact .inl rfl | exact .inr rfl) (by first | omega | (simp only [ByteArray.size_append]; omega) | (simp only [ByteArray.size_append, lit_size, List.size_toArray, List.length_cons, List.length_nil]; omega) | (simp; omega))) ?_
                rintro _ w14 ⟨rfl, ra4, rc4, S35⟩
                replace S35 : Sep w [box b2 [.pointer (some ⟨b2, 0, none⟩), .slice ra4 ((ls ((t ++ (([⟨#[32]⟩, ⟨#[9, 32]⟩, ⟨#[32, 32, 32]⟩]).getD (b % 3).toNat ByteArray.empty)) ++ ((((tkF s).l).getD (i).toNat (⟨0, ByteArray.empty, 0, 0⟩ : Tk)).gText))).length) rc4] 49, rowOf enc8 ra4 rc4 5 1 (ls ((t ++ (([⟨#[32]⟩, ⟨#[9, 32]⟩, ⟨#[32, 32, 32]⟩]).getD (b % 3).toNat ByteArray.empty)) ++ ((((tkF s).l).getD (i).toNat (⟨0, ByteArray.empty, 0, 0⟩ : Tk)).gText))), box b4 [.string ⟨#[32]⟩, .string ⟨#[9, 32]⟩, .string ⟨#[32, 32, 32]⟩] 9, box b3 [.int .i64 ((((tkF s).l).getD (i).toNat (⟨0, ByteArray.empty, 0, 0⟩ : Tk)).gKind), .string ((((tkF s).l).getD (i).toNat (⟨0, ByteArray.empty, 0, 0⟩ : Tk)).gText), .int .i64 ((((tkF s).l).getD (i).toNat (⟨0, ByteArray.empty, 0, 0⟩ : Tk)).gPlace_Line), .int .i64 ((((tkF s).l).getD (i).toNat (⟨0, ByteArray.empty, 0, 0⟩ : Tk)).gPlace_Column)] 36, box b1 [.int .i64 ((tkF s).pl), .int .i64 ((tkF s).pc)] 25, rowOf tkE ra1 rc1 36 4 ((tkF s).l)] w14 := S35
                have S36 : Sep w [rowOf enc8 ra4 rc4 5 1 (ls ((t ++ (([⟨#[32]⟩, ⟨#[9, 32]⟩, ⟨#[32, 32, 32]⟩]).getD (b % 3).toNat ByteArray.empty)) ++ ((((tkF s).l).getD (i).toNat (⟨0, ByteArray.empty, 0, 0⟩ : Tk)).gText))), box b2 [.pointer (some ⟨b2, 0, none⟩), .slice ra4 ((ls ((t ++ (([⟨#[32]⟩, ⟨#[9, 32]⟩, ⟨#[32, 32, 32]⟩]).getD (b % 3).toNat ByteArray.empty)) ++ ((((tkF s).l).getD (i).toNat (⟨0, ByteArray.empty, 0, 0⟩ : Tk)).gText))).length) rc4] 49, box b4 [.string ⟨#[32]⟩, .string ⟨#[9, 32]⟩, .string ⟨#[32, 32, 32]⟩] 9, box b3 [.int .i64 ((((tkF s).l).getD (i).toNat (⟨0, ByteArray.empty, 0, 0⟩ : Tk)).gKind), .string ((((tkF s).l).getD (i).toNat (⟨0, ByteArray.empty, 0, 0⟩ : Tk)).gText), .int .i64 ((((tkF s).l).getD (i).toNat (⟨0, ByteArray.empty, 0, 0⟩ : Tk)).gPlace_Line), .int .i64 ((((tkF s).l).getD (i).toNat (⟨0, ByteArray.empty, 0, 0⟩ : Tk)).gPlace_Column)] 36, box b1 [.int .i64 ((tkF s).pl), .int .i64 ((tkF s).pc)] 25, rowOf tkE ra1 rc1 36 4 ((tkF s).l)] w14 := S35.front 1 rfl
                clear S35
                have S37 : Sep w [box b3 [.int .i64 ((((tkF s).l).getD (i).toNat (⟨0, ByteArray.empty, 0, 0⟩ : Tk)).gKind), .string ((((tkF s).l).getD (i).toNat (⟨0, ByteArray.empty, 0, 0⟩ : Tk)).gText), .int .i64 ((((tkF s).l).getD (i).toNat (⟨0, ByteArray.empty, 0, 0⟩ : Tk)).gPlace_Line), .int .i64 ((((tkF s).l).getD (i).toNat (⟨0, ByteArray.empty, 0, 0⟩ : Tk)).gPlace_Column)] 36, rowOf enc8 ra4 rc4 5 1 (ls ((t ++ (([⟨#[32]⟩, ⟨#[9, 32]⟩, ⟨#[32, 32, 32]⟩]).getD (b % 3).toNat ByteArray.empty)) ++ ((((tkF s).l).getD (i).toNat (⟨0, ByteArray.empty, 0, 0⟩ : Tk)).gText))), box b2 [.pointer (some ⟨b2, 0, none⟩), .slice ra4 ((ls ((t ++ (([⟨#[32]⟩, ⟨#[9, 32]⟩, ⟨#[32, 32, 32]⟩]).getD (b % 3).toNat ByteArray.empty)) ++ ((((tkF s).l).getD (i).toNat (⟨0, ByteArray.empty, 0, 0⟩ : Tk)).gText))).length) rc4] 49, box b4 [.string ⟨#[32]⟩, .string ⟨#[9, 32]⟩, .string ⟨#[32, 32, 32]⟩] 9, box b1 [.int .i64 ((tkF s).pl), .int .i64 ((tkF s).pc)] 25, rowOf tkE ra1 rc1 36 4 ((tkF s).l)] w14 := S36.front 3 rfl
                clear S36
                have S38 : Sep w [box b4 [.string ⟨#[32]⟩, .string ⟨#[9, 32]⟩, .string ⟨#[32, 32, 32]⟩] 9, box b3 [.int .i64 ((((tkF s).l).getD (i).toNat (⟨0, ByteArray.empty, 0, 0⟩ : Tk)).gKind), .string ((((tkF s).l).getD (i).toNat (⟨0, ByteArray.empty, 0, 0⟩ : Tk)).gText), .int .i64 ((((tkF s).l).getD (i).toNat (⟨0, ByteArray.empty, 0, 0⟩ : Tk)).gPlace_Line), .int .i64 ((((tkF s).l).getD (i).toNat (⟨0, ByteArray.empty, 0, 0⟩ : Tk)).gPlace_Column)] 36, rowOf enc8 ra4 rc4 5 1 (ls ((t ++ (([⟨#[32]⟩, ⟨#[9, 32]⟩, ⟨#[32, 32, 32]⟩]).getD (b % 3).toNat ByteArray.empty)) ++ ((((tkF s).l).getD (i).toNat (⟨0, ByteArray.empty, 0, 0⟩ : Tk)).gText))), box b2 [.pointer (some ⟨b2, 0, none⟩), .slice ra4 ((ls ((t ++ (([⟨#[32]⟩, ⟨#[9, 32]⟩, ⟨#[32, 32, 32]⟩]).getD (b % 3).toNat ByteArray.empty)) ++ ((((tkF s).l).getD (i).toNat (⟨0, ByteArray.empty, 0, 0⟩ : Tk)).gText))).length) rc4] 49, box b1 [.int .i64 ((tkF s).pl), .int .i64 ((tkF s).pc)] 25, rowOf tkE ra1 rc1 36 4 ((tkF s).l)] w14 := S37.front 3 rfl
                clear S37
                refine J.run 4 K7_24 [(62, .int .i64 (IntKind.wrap .i64 (i + 1))), (31, .int .i64 (((tkF s).l).length : Int)), (30, .slice ra1 (((tkF s).l).length) rc1), (8, .pointer (some ⟨b2, 0, none⟩)), (5, .slice ra1 (((tkF s).l).length) rc1), (1, .int .u8 b)] w14 (by kernel_rfl) ?_
                refine J.head (.int .i64 (i + 1)) (congrArg (Value.int .i64) (IntWalk.i64_in _ (by omega))) ?_
                refine J.run 3 K7_8 [(32, .int .i64 (i + 1)), (31, .int .i64 (((tkF s).l).length : Int)), (30, .slice ra1 (((tkF s).l).length) rc1), (8, .pointer (some ⟨b2, 0, none⟩)), (5, .slice ra1 (((tkF s).l).length) rc1), (1, .int .u8 b)] w14 (by kernel_rfl) ?_
                have S39 : Sep w [box b4 [.string ⟨#[32]⟩, .string ⟨#[9, 32]⟩, .string ⟨#[32, 32, 32]⟩] 9, rowOf enc8 ra4 rc4 5 1 (ls ((t ++ (([⟨#[32]⟩, ⟨#[9, 32]⟩, ⟨#[32, 32, 32]⟩]).getD (b % 3).toNat ByteArray.empty)) ++ ((((tkF s).l).getD (i).toNat (⟨0, ByteArray.empty, 0, 0⟩ : Tk)).gText))), box b2 [.pointer (some ⟨b2, 0, none⟩), .slice ra4 ((ls ((t ++ (([⟨#[32]⟩, ⟨#[9, 32]⟩, ⟨#[32, 32, 32]⟩]).getD (b % 3).toNat ByteArray.empty)) ++ ((((tkF s).l).getD (i).toNat (⟨0, ByteArray.empty, 0, 0⟩ : Tk)).gText))).length) rc4] 49, box b1 [.int .i64 ((tkF s).pl), .int .i64 ((tkF s).pc)] 25, rowOf tkE ra1 rc1 36 4 ((tkF s).l)] w14 := S38.erase 1
                clear S38
                have S40 : Sep w [rowOf enc8 ra4 rc4 5 1 (ls ((t ++ (([⟨#[32]⟩, ⟨#[9, 32]⟩, ⟨#[32, 32, 32]⟩]).getD (b % 3).toNat ByteArray.empty)) ++ ((((tkF s).l).getD (i).toNat (⟨0, ByteArray.empty, 0, 0⟩ : Tk)).gText))), box b2 [.pointer (some ⟨b2, 0, none⟩), .slice ra4 ((ls ((t ++ (([⟨#[32]⟩, ⟨#[9, 32]⟩, ⟨#[32, 32, 32]⟩]).getD (b % 3).toNat ByteArray.empty)) ++ ((((tkF s).l).getD (i).toNat (⟨0, ByteArray.empty, 0, 0⟩ : Tk)).gText))).length) rc4] 49, box b1 [.int .i64 ((tkF s).pl), .int .i64 ((tkF s).pc)] 25, rowOf tkE ra1 rc1 36 4 ((tkF s).l)] w14 := S39.erase 0
                clear S39
                refine J.run 0 K7_8 [(32, .int .i64 (i + 1)), (31, .int .i64 (((tkF s).l).length : Int)), (30, .slice ra1 (((tkF s).l).length) rc1), (8, .pointer (some ⟨b2, 0, none⟩)), (5, .slice ra1 (((tkF s).l).length) rc1), (1, .int .u8 b)] w14 (by kernel_rfl) ?_
                exact ih1 _ (show (((tkF s).l.length : Int) - (i + 1)).toNat < mm1 from by omega) (some ⟨b2, 0, none⟩) ra4 rc4 ((t ++ (([⟨#[32]⟩, ⟨#[9, 32]⟩, ⟨#[32, 32, 32]⟩]).getD (b % 3).toNat ByteArray.empty)) ++ ((((tkF s).l).getD (i).toNat (⟨0, ByteArray.empty, 0, 0⟩ : Tk)).gText)) (i + 1) w14 (by omega) (by omega) (.inr rfl) (by rw [back_next h0 (by omega) ht]; unfold stepB; rw [if_neg fk6]; rfl) S40 rfl
        · skip
          refine J.head (.bool false) (congrArg Value.bool (decide_eq_false fk3)) ?_
          have ht2 : t = backB (b % 3).toNat (tkF s).l := by rw [ht, List.take_of_length_le (by omega)]
          rw [← ht2] at hbk hrm
          refine J.run 4 K7_25 [(8, .pointer (some ⟨b2, 0, none⟩)), (5, .slice ra1 (((tkF s).l).length) rc1)] w6 (by kernel_rfl) ?_
          have S41 : Sep w [rowOf enc8 ra rc 5 1 (ls t), box b2 [.pointer pp, .slice ra ((ls t).length) rc] 49, box b1 [.int .i64 ((tkF s).pl), .int .i64 ((tkF s).pc)] 25, rowOf tkE ra1 rc1 36 4 ((tkF s).l)] w6 := S7.front 0 rfl
          have S42 : Sep w [box b2 [.pointer pp, .slice ra ((ls t).length) rc] 49, rowOf enc8 ra rc 5 1 (ls t), box b1 [.int .i64 ((tkF s).pl), .int .i64 ((tkF s).pc)] 25, rowOf tkE ra1 rc1 36 4 ((tkF s).l)] w6 := S41.front 1 rfl
          refine J.callF 64 24 #[.pointer (some ⟨b2, 0, none⟩)] hb24 (by kernel_rfl) (bstring_any b2 pp ra rc t _ _ _ S42 (by first | assumption | exact .inl rfl | exact .inr rfl) (offs_cons (off_box _ _ _ (by decide)) (offs_cons (off_row _ _ _ _ _ (by decide)) (offs_nil _)))) ?_
          rintro _ w15 ⟨rfl, S43⟩
          replace S43 : Sep w [box b1 [.int .i64 ((tkF s).pl), .int .i64 ((tkF s).pc)] 25, rowOf tkE ra1 rc1 36 4 ((tkF s).l)] w15 := S43
          refine J.callF 65 10 #[.string t] hb10 (by kernel_rfl) (tokens_any t _ (by omega) (tabW_sep hW S43)) ?_
          rintro _ w16 ⟨ra5, rc5, rfl, T3⟩
          have S44 : Sep w [rowOf tkE ra5 rc5 36 4 ((tkF t).l), box b1 [.int .i64 ((tkF s).pl), .int .i64 ((tkF s).pc)] 25, rowOf tkE ra1 rc1 36 4 ((tkF s).l)] w16 := S43.trans T3
          clear T3 S43
          refine J.run 4 K7_26 [(68, .int .i64 ((tkF t).e)), (67, .agg #[.int .i64 ((tkF t).pl), .int .i64 ((tkF t).pc)]), (66, .slice ra5 (((tkF t).l).length) rc5), (5, .slice ra1 (((tkF s).l).length) rc1)] w16 (by kernel_rfl) ?_
          refine J.new S44 12 [.int .i64 0, .int .i64 0] 25 (by kernel_rfl) ?_
          intro b6 w17 S45
          refine J.run 1 K7_27 [(11, .slice ra5 (((tkF t).l).length) rc5), (12, .pointer (some ⟨b6, 0, none⟩)), (68, .int .i64 ((tkF t).e)), (67, .agg #[.int .i64 ((tkF t).pl), .int .i64 ((tkF t).pc)]), (5, .slice ra1 (((tkF s).l).length) rc1)] w17 (by kernel_rfl) ?_
          refine J.stBox S45 0 25 0 (.agg #[.int .i64 ((tkF t).pl), .int .i64 ((tkF t).pc)]) [.int .i64 ((tkF t).pl), .int .i64 ((tkF t).pc)] [box b6 [.int .i64 ((tkF t).pl), .int .i64 ((tkF t).pc)] 25, rowOf tkE ra5 rc5 36 4 ((tkF t).l), box b1 [.int .i64 ((tkF s).pl), .int .i64 ((tkF s).pc)] 25, rowOf tkE ra1 rc1 36 4 ((tkF s).l)] (by kernel_rfl) rfl (by kernel_rfl) (by kernel_rfl) rfl ?_
          intro w18 S46
          refine J.run 7 K7_28 [(71, .bool (((tkF t).e) == 0)), (11, .slice ra5 (((tkF t).l).length) rc5), (5, .slice ra1 (((tkF s).l).length) rc1)] w18 (by kernel_rfl) ?_
          have fk8 : ((tkF t).e) = 0 := hbk.1
          refine J.head (.bool true) (congrArg Value.bool (beq_iff_eq.2 fk8)) ?_
          refine J.run 2 K7_29 [(73, .slice ra5 (((tkF t).l).length) rc5), (72, .slice ra1 (((tkF s).l).length) rc1), (71, .bool true)] w18 (by kernel_rfl) ?_
          refine J.callF 74 25 #[.slice ra1 (((tkF s).l).length) rc1, .slice ra5 (((tkF t).l).length) rc5, .func (.func 26) #[] #[]] hb25 (by kernel_rfl) (equalfunc_any ra1 (((tkF s).l).length) rc1 ((tkF s).l) ra5 (((tkF t).l).length) rc5 ((tkF t).l) _ ((rowOf_recs (S46.nth 3 rfl) _ rfl (fun _ => rfl) (by decide))) ((rowOf_recs (S46.nth 1 rfl) _ rfl (fun _ => rfl) (by decide))) (by first | omega | (simp; omega))) ?_
          rintro _ w19 ⟨rfl, T4⟩
          have S47 : Sep w [box b6 [.int .i64 ((tkF t).pl), .int .i64 ((tkF t).pc)] 25, rowOf tkE ra5 rc5 36 4 ((tkF t).l), box b1 [.int .i64 ((tkF s).pl), .int .i64 ((tkF s).pc)] 25, rowOf tkE ra1 rc1 36 4 ((tkF s).l)] w19 := S46.trans T4
          clear T4 S46
          refine J.run 3 K7_30 [(4, .bool (sameK ((tkF s).l) ((tkF t).l)))] w19 (by kernel_rfl) ?_
          refine J.ret Tryd.f7 [.bool (sameK ((tkF s).l) ((tkF t).l))] Tryd.func7 ⟨by kernel_rfl, trivial⟩ ?_
          refine hR _ _ ?_
          have fk9 : (sameK ((tkF s).l) ((tkF t).l)) = true := shape_same hbk.2
          exact ⟨congrArg Value.bool fk9, S47.nil⟩
      exact L7_1 _ none none 0 ByteArray.empty 0 w5 (by omega) (by omega) (.inl rfl) (rfl) S6 rfl
    · skip
      refine J.head (.bool true) (congrArg Value.bool (bne_iff_ne.2 fk2)) ?_
      have hG := tk_places (s := s) (by omega)
      obtain ⟨g1, g2, g3⟩ := hG.1 fk2
      have hl0 : (tkF s).l.length = 0 := by rw [g1]; rfl
      refine J.run 8 K7_31 [(4, .bool ((((tkF s).l).length : Int) == 0))] w4 (by kernel_rfl) ?_
      refine J.ret Tryd.f7 [.bool ((((tkF s).l).length : Int) == 0)] Tryd.func7 ⟨by kernel_rfl, trivial⟩ ?_
      refine hR _ _ ?_
      exact ⟨congrArg Value.bool ((beq_iff_eq.2 (by omega))), S4.nil⟩

end Go.Proofs.YtlklealllohmgaaDoor
