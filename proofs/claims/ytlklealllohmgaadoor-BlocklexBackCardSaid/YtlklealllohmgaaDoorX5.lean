/- Walks of functions of this seat, printed by a program over the engine. Conditions: as each theorem says. -/
import Derived.Test.YtlklealllohmgaaDoorX4
namespace Go.Proofs.YtlklealllohmgaaDoor
open Go.Eng Go.RowKit
set_option linter.unusedSimpArgs false
set_option linter.unusedVariables false
theorem hb33 : HasBody Tryd.prog 33 := fun _ _ => by kernel_rfl
noncomputable def K33_0 : List Item := adv 2 [] (bodyOf Tryd.f33)
noncomputable def K33_1 : List Item := adv 3 [] (popK K33_0)
noncomputable def K33_2 : List Item := adv 1 [] (popK K33_1)
noncomputable def K33_3 : List Item := adv 2 [] K33_2
noncomputable def K33_4 : List Item := adv 1 [] K33_3
noncomputable def K33_5 : List Item := adv 1 [] (popK K33_4)
set_option maxRecDepth 20000 in
set_option maxHeartbeats 20000000 in
theorem place_any (i a : Int) (b : Nat) (w : World) (hb : (box b [.int .i64 i] 3).holds w) (hi : 0 ≤ i ∧ i ≤ 1099511627776) (ha : 0 ≤ a ∧ a ≤ 1099511627776) : Ret Tryd.prog 33 #[.int .i64 a, .pointer (some ⟨b, 0, none⟩)] w (fun v w' => v = .agg #[.int .i64 (i + 1), .int .i64 (a + 1)] ∧ Sep w [] w') := by
  have S0 := Sep.refl w
  refine Ret.named fun R hR => ?_
  refine Ret.of_J (N := 9) [(0, .int .i64 a), (1, .pointer (some ⟨b, 0, none⟩))] Tryd.func33 rfl rfl (Nat.le_of_ble_eq_true (by kernel_rfl)) (by kernel_rfl) ?_
  refine J.run 2 K33_0 [(0, .int .i64 a), (1, .pointer (some ⟨b, 0, none⟩))] w (by kernel_rfl) ?_
  refine J.new S0 3 [.int .i64 0, .int .i64 0] 25 (by kernel_rfl) ?_
  intro b1 w1 S1
  refine J.run 3 K33_1 [(3, .pointer (some ⟨b1, 0, none⟩)), (0, .int .i64 a), (1, .pointer (some ⟨b, 0, none⟩))] w1 (by kernel_rfl) ?_
  refine J.ok (OK.ldRo S1 hb 4 3 0 (.int .i64 i) (by kernel_rfl) (by kernel_rfl)) ?_
  refine J.run 1 K33_2 [(5, .int .i64 (IntKind.wrap .i64 (i + 1))), (3, .pointer (some ⟨b1, 0, none⟩)), (0, .int .i64 a)] w1 (by kernel_rfl) ?_
  refine J.head (.int .i64 (i + 1)) (congrArg (Value.int .i64) (IntWalk.i64_in _ (by omega))) ?_
  refine J.run 2 K33_3 [(7, .int .i64 (IntKind.wrap .i64 (a + 1))), (5, .int .i64 (i + 1)), (3, .pointer (some ⟨b1, 0, none⟩))] w1 (by kernel_rfl) ?_
  refine J.head (.int .i64 (a + 1)) (congrArg (Value.int .i64) (IntWalk.i64_in _ (by omega))) ?_
  refine J.run 1 K33_4 [(8, .agg #[.int .i64 (i + 1), .int .i64 (a + 1)]), (3, .pointer (some ⟨b1, 0, none⟩))] w1 (by kernel_rfl) ?_
  refine J.stBox S1 0 25 0 (.agg #[.int .i64 (i + 1), .int .i64 (a + 1)]) [.int .i64 (i + 1), .int .i64 (a + 1)] [box b1 [.int .i64 (i + 1), .int .i64 (a + 1)] 25] (by kernel_rfl) rfl (by kernel_rfl) (by kernel_rfl) rfl ?_
  intro w2 S2
  refine J.run 1 K33_5 [(3, .pointer (some ⟨b1, 0, none⟩))] w2 (by kernel_rfl) ?_
  refine J.ret Tryd.f33 [.agg #[.int .i64 (i + 1), .int .i64 (a + 1)]] Tryd.func33 ⟨⟨⟨b1, 0, none⟩, by kernel_rfl, ldV_run (S2.nth 0 rfl) (by kernel_rfl)⟩, trivial⟩ ?_
  refine hR _ _ ?_
  exact ⟨rfl, S2.nil⟩

theorem hb13 : HasBody Tryd.prog 13 := fun _ _ => by kernel_rfl
theorem split10_any (s : ByteArray) (w : World) (hs : s.size < 4294967281) (hW : TabW w) : Ret Tryd.prog 13 #[.string s, .string ⟨#[10]⟩] w (fun v w' => ∃ b, v = .slice (some ⟨b, 0, none⟩) (piecesB 10 s).length (piecesB 10 s).length ∧ Sep w [box b ((piecesB 10 s).map Value.string) 9] w') := by
  obtain ⟨m, hm⟩ := hW.2.2.2
  refine Calls.mono (Tryd.strings_Split s ⟨#[10]⟩ m w hs hm (Nat.le_refl 1)) fun e w' ⟨he, hw⟩ => ?_
  subst he hw
  rw [splitB_len, splitB_pieces]
  exact ⟨_, rfl, _, rfl, Sep.of_alloc _ _ _⟩
theorem hb10 : HasBody Tryd.prog 10 := fun _ _ => by kernel_rfl
noncomputable def K10_0 : List Item := adv 3 [] (bodyOf Tryd.f10)
noncomputable def K10_1 : List Item := adv 9 [] (popK K10_0)
noncomputable def K10_2 : List Item := adv 5 [true] K10_1
noncomputable def K10_3 : List Item := adv 2 [] (popK K10_2)
noncomputable def K10_4 : List Item := adv 10 [false] K10_1
noncomputable def K10_5 : List Item := adv 5 [] (popK K10_4)
noncomputable def K10_6 : List Item := adv 5 [] K10_5
noncomputable def K10_7 : List Item := adv 7 [true] K10_6
noncomputable def K10_8 : List Item := adv 1 [] (popK (popK (popK (popK K10_7))))
noncomputable def K10_9 : List Item := adv 17 [] K10_8
noncomputable def K10_10 : List Item := List.drop 1 K10_9
noncomputable def K10_11 : List Item := adv 7 [] K10_10
noncomputable def K10_12 : List Item := adv 6 [true] K10_11
noncomputable def K10_13 : List Item := adv 1 [] (popK K10_12)
noncomputable def K10_14 : List Item := adv 5 [] (popK (popK K10_13))
noncomputable def K10_15 : List Item := adv 5 [false] K10_11
noncomputable def K10_16 : List Item := adv 2 [] K10_9
noncomputable def K10_17 : List Item := adv 8 [] K10_16
noncomputable def K10_18 : List Item := adv 8 [true] K10_17
noncomputable def K10_19 : List Item := adv 2 [] (popK K10_18)
noncomputable def K10_20 : List Item := adv 9 [true] K10_19
noncomputable def K10_21 : List Item := adv 8 [] K10_20
noncomputable def K10_22 : List Item := adv 8 [true] K10_21
noncomputable def K10_23 : List Item := adv 2 [] (popK K10_22)
noncomputable def K10_24 : List Item := adv 17 [true] K10_23
noncomputable def K10_25 : List Item := adv 1 [] (popK K10_24)
noncomputable def K10_26 : List Item := adv 2 [] (popK K10_25)
noncomputable def K10_27 : List Item := adv 2 [] K10_23
noncomputable def K10_28 : List Item := adv 2 [] (popK K10_27)
noncomputable def K10_29 : List Item := adv 2 [] K10_28
noncomputable def K10_30 : List Item := adv 4 [] (popK K10_29)
noncomputable def K10_31 : List Item := adv 6 [false] K10_30
noncomputable def K10_32 : List Item := adv 5 [true] K10_30
noncomputable def K10_33 : List Item := adv 1 [] (popK K10_32)
noncomputable def K10_34 : List Item := adv 2 [] (popK K10_33)
noncomputable def K10_35 : List Item := adv 13 [false] K10_28
noncomputable def K10_36 : List Item := adv 6 [false] K10_19
noncomputable def K10_37 : List Item := adv 14 [] (popK K10_36)
noncomputable def K10_38 : List Item := adv 8 [false] K10_37
noncomputable def K10_39 : List Item := adv 1 [true] K10_38
noncomputable def K10_40 : List Item := adv 4 [] (rRest K10_39)
noncomputable def K10_41 : List Item := adv 6 [false] K10_38
noncomputable def K10_42 : List Item := adv 5 [true] K10_37
noncomputable def K10_43 : List Item := adv 2 [] (popK K10_42)
noncomputable def K10_44 : List Item := adv 2 [] (popK K10_43)
noncomputable def K10_45 : List Item := adv 7 [false] K10_6
noncomputable def K10_46 : List Item := adv 2 [] (popK K10_45)
set_option maxRecDepth 20000 in
set_option maxHeartbeats 20000000 in
theorem tokens_any (s : ByteArray) (w : World) (hs : s.size ≤ 9223372036854775807) (hW : TabW w) : Ret Tryd.prog 10 #[.string s] w (fun v w' => ∃ a cap, v = .tuple #[.slice a (tkF s).l.length cap, .agg #[.int .i64 (tkF s).pl, .int .i64 (tkF s).pc], .int .i64 (tkF s).e] ∧ Sep w [rowOf tkE a cap 36 4 (tkF s).l] w') := by
  have S0 := Sep.refl w
  refine Ret.named fun R hR => ?_
  refine Ret.of_J (N := 111) [(0, .string s)] Tryd.func10 rfl rfl (Nat.le_of_ble_eq_true (by kernel_rfl)) (by kernel_rfl) ?_
  refine J.run 3 K10_0 [(0, .string s)] w (by kernel_rfl) ?_
  refine J.new S0 3 [.int .i64 0, .int .i64 0] 25 (by kernel_rfl) ?_
  intro b1 w1 S1
  refine J.run 9 K10_1 [(17, .bool (decide ((s.size : Int) > 16384))), (3, .pointer (some ⟨b1, 0, none⟩)), (0, .string s)] w1 (by kernel_rfl) ?_
  by_cases fk1 : (s.size : Int) > 16384
  · skip
    refine J.head (.bool true) (congrArg Value.bool (decide_eq_true fk1)) ?_
    refine J.run 5 K10_2 [(2, .slice none 0 0), (18, .agg #[.int .i64 0, .int .i64 0]), (3, .pointer (some ⟨b1, 0, none⟩))] w1 (by kernel_rfl) ?_
    refine J.stBox S1 0 25 0 (.agg #[.int .i64 0, .int .i64 0]) [.int .i64 0, .int .i64 0] [box b1 [.int .i64 0, .int .i64 0] 25] (by kernel_rfl) rfl (by kernel_rfl) (by kernel_rfl) rfl ?_
    intro w2 S2
    refine J.run 2 K10_3 [(4, .int .i64 5), (2, .slice none 0 0), (3, .pointer (some ⟨b1, 0, none⟩))] w2 (by kernel_rfl) ?_
    refine J.ret Tryd.f10 [.slice none 0 0, .agg #[.int .i64 0, .int .i64 0], .int .i64 5] Tryd.func10 ⟨by kernel_rfl, ⟨⟨b1, 0, none⟩, by kernel_rfl, ldV_run (S2.nth 0 rfl) (by kernel_rfl)⟩, by kernel_rfl, trivial⟩ ?_
    refine hR _ _ ?_
    have e_ : tkF s = ⟨[], 0, 0, 5⟩ := by unfold tkF; rw [if_pos (by omega)]
    exact ⟨none, 0, by rw [e_]; rfl, by rw [e_]; exact S2.nil.nilRow 36 4⟩
  · skip
    refine J.head (.bool false) (congrArg Value.bool (decide_eq_false fk1)) ?_
    refine J.run 10 K10_4 [(19, .string s), (5, .slice none 0 0), (3, .pointer (some ⟨b1, 0, none⟩))] w1 (by kernel_rfl) ?_
    refine J.callF 20 13 #[.string s, .string ⟨#[10]⟩] hb13 (by kernel_rfl) (split10_any s _ (by omega) (tabW_sep hW S1)) ?_
    rintro _ w3 ⟨b2, rfl, T1⟩
    have S3 : Sep w [box b2 ((piecesB 10 s).map Value.string) 9, box b1 [.int .i64 0, .int .i64 0] 25] w3 := S1.trans T1
    clear T1
    have := splitOn_bound 10 (ls s); have := pieces_len 10 s; have := ls_length s
    refine J.run 5 K10_5 [(22, .int .i64 0), (21, .int .i64 ((piecesB 10 s).length : Int)), (20, .slice (some ⟨b2, 0, none⟩) ((piecesB 10 s).length) ((piecesB 10 s).length)), (5, .slice none 0 0), (3, .pointer (some ⟨b1, 0, none⟩))] w3 (by kernel_rfl) ?_
    have S4 : Sep w [rowOf tkE none 0 36 4 ([]), box b2 ((piecesB 10 s).map Value.string) 9, box b1 [.int .i64 0, .int .i64 0] 25] w3 := S3.nilRow 36 4
    have L10_1 : ∀ (mm_ : Nat) (ra : Option Addr) (rc : Nat) (out : List Tk) (i : Int) (w4 : World), (0 ≤ i) → (i ≤ ((piecesB 10 s).length : Int)) → (((out).length : Int) ≤ 20000 * i) → (tkF s = lineQ (splitOn 10 (ls s)) i out) → Sep w [rowOf tkE ra rc 36 4 out, box b2 ((piecesB 10 s).map Value.string) 9, box b1 [.int .i64 0, .int .i64 0] 25] w4 → (((piecesB 10 s).length : Int) - i).toNat = mm_ → J Tryd.prog 10 111 R K10_5 [(22, .int .i64 i), (21, .int .i64 ((piecesB 10 s).length : Int)), (20, .slice (some ⟨b2, 0, none⟩) ((piecesB 10 s).length) ((piecesB 10 s).length)), (5, .slice ra out.length rc), (3, .pointer (some ⟨b1, 0, none⟩))] w4 := by
      intro mm1
      induction mm1 using Nat.strongRecOn with
      | _ mm1 ih1 =>
      intro ra rc out i w4 h0 h1 hol hQ S5 hm1
      refine J.run 5 K10_6 [(23, .bool (decide (i < ((piecesB 10 s).length : Int)))), (22, .int .i64 i), (21, .int .i64 ((piecesB 10 s).length : Int)), (20, .slice (some ⟨b2, 0, none⟩) ((piecesB 10 s).length) ((piecesB 10 s).length)), (5, .slice ra out.length rc), (3, .pointer (some ⟨b1, 0, none⟩))] w4 (by kernel_rfl) ?_
      by_cases fk2 : i < ((piecesB 10 s).length : Int)
      · skip
        refine J.head (.bool true) (congrArg Value.bool (decide_eq_true fk2)) ?_
        refine J.run 7 K10_7 [(24, .int .i64 i), (22, .int .i64 i), (21, .int .i64 ((piecesB 10 s).length : Int)), (20, .slice (some ⟨b2, 0, none⟩) ((piecesB 10 s).length) ((piecesB 10 s).length)), (5, .slice ra out.length rc), (3, .pointer (some ⟨b1, 0, none⟩))] w4 (by kernel_rfl) ?_
        obtain ⟨p1, hp1, hc1⟩ := (box_ones (S5.nth 1 rfl) ((piecesB 10 s).length) rfl).at ByteArray.empty (i).toNat (by omega)
        refine J.ok (OK.index 25 33 1 (some ⟨b2, 0, none⟩) p1 ((piecesB 10 s).length) (i).toNat i (p1.add (i).toNat) (by kernel_rfl) (by kernel_rfl) hp1 (by omega) (by omega) (by rw [Nat.mul_one])) ?_
        refine J.ok (OK.ldCell 26 9 (p1.add (i).toNat) (.string ((piecesB 10 s).getD (i).toNat ByteArray.empty)) (by kernel_rfl) (by kernel_rfl) hc1) ?_
        refine J.new S5 6 [.int .i64 0] 3 (by kernel_rfl) ?_
        intro b3 w5 S6
        refine J.stBox S6 0 3 0 (.int .i64 i) [.int .i64 i] [box b3 [.int .i64 i] 3, rowOf tkE ra rc 36 4 out, box b2 ((piecesB 10 s).map Value.string) 9, box b1 [.int .i64 0, .int .i64 0] 25] (by kernel_rfl) rfl (by kernel_rfl) (by kernel_rfl) rfl ?_
        intro w6 S7
        refine J.run 1 K10_8 [(7, .string ((piecesB 10 s).getD (i).toNat ByteArray.empty)), (6, .pointer (some ⟨b3, 0, none⟩)), (22, .int .i64 i), (21, .int .i64 ((piecesB 10 s).length : Int)), (20, .slice (some ⟨b2, 0, none⟩) ((piecesB 10 s).length) ((piecesB 10 s).length)), (5, .slice ra out.length rc), (3, .pointer (some ⟨b1, 0, none⟩))] w6 (by kernel_rfl) ?_
        obtain ⟨x, hx⟩ : ∃ x : ByteArray, x = (piecesB 10 s).getD (i).toNat ByteArray.empty := ⟨_, rfl⟩
        refine J.head (.string x) (congrArg Value.string hx.symm) ?_
        have hx1 : ls x = (splitOn 10 (ls s)).getD i.toNat [] := by rw [hx]; exact piecesB_getD 10 s i.toNat (by omega)
        have hxs : x.size ≤ s.size := by rw [hx]; exact piece_size 10 s i.toNat
        have hno : 10 ∉ ls x := by rw [hx1]; exact piece_no _ _ (by omega)
        have hG0 : tkF s = gT ((ls x).drop (0 : Int).toNat ++ tailL (splitOn 10 (ls s)) i.toNat) (i + 1) (0 + 1) false false out := by rw [hx1]; exact hQ.trans (line_start (by omega) (by omega) out)
        refine J.run 17 K10_9 [(10, .int .i64 0), (9, .func (.func 33) #[] #[.pointer (some ⟨b3, 0, none⟩)]), (8, .int .i64 (out.length : Int)), (7, .string x), (22, .int .i64 i), (21, .int .i64 ((piecesB 10 s).length : Int)), (20, .slice (some ⟨b2, 0, none⟩) ((piecesB 10 s).length) ((piecesB 10 s).length)), (5, .slice ra out.length rc), (3, .pointer (some ⟨b1, 0, none⟩))] w6 (by kernel_rfl) ?_
        have X1 : ∀ (ra3 : Option Addr) (rc3 : Nat) (out3 : List Tk) (w7 : World), (out.length ≤ (out3).length ∧ ((out3).length : Int) ≤ out.length + x.size) → (tkF s = lineQ (splitOn 10 (ls s)) (i + 1) (endT (decide (out.length < (out3).length)) (i + 1) ((x.size : Int) + 1) out3)) → Sep w [box b3 [.int .i64 i] 3, rowOf tkE ra3 rc3 36 4 out3, box b2 ((piecesB 10 s).map Value.string) 9, box b1 [.int .i64 0, .int .i64 0] 25] w7 → J Tryd.prog 10 111 R K10_10 [(9, .func (.func 33) #[] #[.pointer (some ⟨b3, 0, none⟩)]), (8, .int .i64 (out.length : Int)), (7, .string x), (22, .int .i64 i), (21, .int .i64 ((piecesB 10 s).length : Int)), (20, .slice (some ⟨b2, 0, none⟩) ((piecesB 10 s).length) ((piecesB 10 s).length)), (3, .pointer (some ⟨b1, 0, none⟩)), (5, .slice ra3 out3.length rc3)] w7 := by
          intro ra3 rc3 out3 w7 hl3 hE S8
          refine J.run 7 K10_11 [(99, .bool (decide ((out3.length : Int) > (out.length : Int)))), (9, .func (.func 33) #[] #[.pointer (some ⟨b3, 0, none⟩)]), (7, .string x), (22, .int .i64 i), (21, .int .i64 ((piecesB 10 s).length : Int)), (20, .slice (some ⟨b2, 0, none⟩) ((piecesB 10 s).length) ((piecesB 10 s).length)), (3, .pointer (some ⟨b1, 0, none⟩)), (5, .slice ra3 out3.length rc3)] w7 (by kernel_rfl) ?_
          by_cases fk3 : (out3.length : Int) > (out.length : Int)
          · skip
            refine J.head (.bool true) (congrArg Value.bool (decide_eq_true fk3)) ?_
            refine J.run 6 K10_12 [(103, .int .i64 (x.size : Int)), (101, .func (.func 33) #[] #[.pointer (some ⟨b3, 0, none⟩)]), (100, .slice ra3 out3.length rc3), (22, .int .i64 i), (21, .int .i64 ((piecesB 10 s).length : Int)), (20, .slice (some ⟨b2, 0, none⟩) ((piecesB 10 s).length) ((piecesB 10 s).length)), (3, .pointer (some ⟨b1, 0, none⟩))] w7 (by kernel_rfl) ?_
            refine J.callF 104 33 #[.int .i64 (x.size : Int), .pointer (some ⟨b3, 0, none⟩)] hb33 (by kernel_rfl) (place_any i (x.size : Int) b3 _ (S8.nth 0 rfl) (by omega) (by omega)) ?_
            rintro _ w8 ⟨rfl, T2⟩
            have S9 : Sep w [box b3 [.int .i64 i] 3, rowOf tkE ra3 rc3 36 4 out3, box b2 ((piecesB 10 s).map Value.string) 9, box b1 [.int .i64 0, .int .i64 0] 25] w8 := S8.trans T2
            refine J.run 1 K10_13 [(105, .agg #[.int .i64 4, .string ByteArray.empty, .int .i64 (i + 1), .int .i64 ((x.size : Int) + 1)]), (100, .slice ra3 out3.length rc3), (22, .int .i64 i), (21, .int .i64 ((piecesB 10 s).length : Int)), (20, .slice (some ⟨b2, 0, none⟩) ((piecesB 10 s).length) ((piecesB 10 s).length)), (3, .pointer (some ⟨b1, 0, none⟩))] w8 (by kernel_rfl) ?_
            refine J.newSlice S9 106 1 [.int .i64 4, .string ByteArray.empty, .int .i64 (i + 1), .int .i64 ((x.size : Int) + 1)] 36 (by kernel_rfl) ?_
            intro b4 w9 S10
            refine J.append tkE S10 2 out3 (⟨4, ByteArray.empty, i + 1, (x.size : Int) + 1⟩ : Tk) 107 23 (.agg #[.int .i64 0, .string ByteArray.empty, .int .i64 0, .int .i64 0]) 40 ⟨b4, 0, none⟩ 1 rfl (by kernel_rfl) (by kernel_rfl) (by kernel_rfl) (by kernel_rfl) (by decide) (box_cells (S10.nth 0 rfl)) (by kernel_rfl) (by kernel_rfl) (⟨by omega, by omega⟩) ?_
            intro ra1 rc1 w10 S11
            replace S11 : Sep w [box b4 [.int .i64 4, .string ByteArray.empty, .int .i64 (i + 1), .int .i64 ((x.size : Int) + 1)] 36, box b3 [.int .i64 i] 3, rowOf tkE ra1 rc1 36 4 (out3 ++ [(⟨4, ByteArray.empty, i + 1, (x.size : Int) + 1⟩ : Tk)]), box b2 ((piecesB 10 s).map Value.string) 9, box b1 [.int .i64 0, .int .i64 0] 25] w10 := S11
            have S12 : Sep w [box b3 [.int .i64 i] 3, rowOf tkE ra1 rc1 36 4 (out3 ++ [(⟨4, ByteArray.empty, i + 1, (x.size : Int) + 1⟩ : Tk)]), box b2 ((piecesB 10 s).map Value.string) 9, box b1 [.int .i64 0, .int .i64 0] 25] w10 := S11.erase 0
            clear S11
            refine J.run 5 K10_14 [(108, .int .i64 (IntKind.wrap .i64 (i + 1))), (5, .slice ra1 ((out3 ++ [(⟨4, ByteArray.empty, i + 1, (x.size : Int) + 1⟩ : Tk)]).length) rc1), (21, .int .i64 ((piecesB 10 s).length : Int)), (20, .slice (some ⟨b2, 0, none⟩) ((piecesB 10 s).length) ((piecesB 10 s).length)), (3, .pointer (some ⟨b1, 0, none⟩))] w10 (by kernel_rfl) ?_
            refine J.head (.int .i64 (i + 1)) (congrArg (Value.int .i64) (IntWalk.i64_in _ (by omega))) ?_
            refine J.run 3 K10_5 [(22, .int .i64 (i + 1)), (5, .slice ra1 ((out3 ++ [(⟨4, ByteArray.empty, i + 1, (x.size : Int) + 1⟩ : Tk)]).length) rc1), (21, .int .i64 ((piecesB 10 s).length : Int)), (20, .slice (some ⟨b2, 0, none⟩) ((piecesB 10 s).length) ((piecesB 10 s).length)), (3, .pointer (some ⟨b1, 0, none⟩))] w10 (by kernel_rfl) ?_
            have S13 : Sep w [rowOf tkE ra1 rc1 36 4 (out3 ++ [(⟨4, ByteArray.empty, i + 1, (x.size : Int) + 1⟩ : Tk)]), box b2 ((piecesB 10 s).map Value.string) 9, box b1 [.int .i64 0, .int .i64 0] 25] w10 := S12.erase 0
            clear S12
            refine J.run 0 K10_5 [(22, .int .i64 (i + 1)), (21, .int .i64 ((piecesB 10 s).length : Int)), (20, .slice (some ⟨b2, 0, none⟩) ((piecesB 10 s).length) ((piecesB 10 s).length)), (5, .slice ra1 ((out3 ++ [(⟨4, ByteArray.empty, i + 1, (x.size : Int) + 1⟩ : Tk)]).length) rc1), (3, .pointer (some ⟨b1, 0, none⟩))] w10 (by kernel_rfl) ?_
            exact ih1 _ (show (((piecesB 10 s).length : Int) - (i + 1)).toNat < mm1 from by omega) ra1 rc1 (out3 ++ [(⟨4, ByteArray.empty, i + 1, (x.size : Int) + 1⟩ : Tk)]) (i + 1) w10 (by omega) (by omega) (by (try rw [List.length_append, List.length_singleton]); omega) (by rw [hE]; unfold endT; rw [if_pos (decide_eq_true (by omega))]) S13 rfl
          · skip
            refine J.head (.bool false) (congrArg Value.bool (decide_eq_false fk3)) ?_
            refine J.run 5 K10_15 [(108, .int .i64 (IntKind.wrap .i64 (i + 1))), (21, .int .i64 ((piecesB 10 s).length : Int)), (20, .slice (some ⟨b2, 0, none⟩) ((piecesB 10 s).length) ((piecesB 10 s).length)), (3, .pointer (some ⟨b1, 0, none⟩)), (5, .slice ra3 out3.length rc3)] w7 (by kernel_rfl) ?_
            refine J.head (.int .i64 (i + 1)) (congrArg (Value.int .i64) (IntWalk.i64_in _ (by omega))) ?_
            refine J.run 3 K10_5 [(22, .int .i64 (i + 1)), (21, .int .i64 ((piecesB 10 s).length : Int)), (20, .slice (some ⟨b2, 0, none⟩) ((piecesB 10 s).length) ((piecesB 10 s).length)), (3, .pointer (some ⟨b1, 0, none⟩)), (5, .slice ra3 out3.length rc3)] w7 (by kernel_rfl) ?_
            have S14 : Sep w [rowOf tkE ra3 rc3 36 4 out3, box b2 ((piecesB 10 s).map Value.string) 9, box b1 [.int .i64 0, .int .i64 0] 25] w7 := S8.erase 0
            clear S8
            refine J.run 0 K10_5 [(22, .int .i64 (i + 1)), (21, .int .i64 ((piecesB 10 s).length : Int)), (20, .slice (some ⟨b2, 0, none⟩) ((piecesB 10 s).length) ((piecesB 10 s).length)), (5, .slice ra3 out3.length rc3), (3, .pointer (some ⟨b1, 0, none⟩))] w7 (by kernel_rfl) ?_
            exact ih1 _ (show (((piecesB 10 s).length : Int) - (i + 1)).toNat < mm1 from by omega) ra3 rc3 out3 (i + 1) w7 (by omega) (by omega) (by (try rw [List.length_append, List.length_singleton]); omega) (by rw [hE]; unfold endT; rw [if_neg (by rw [decide_eq_false (by omega)]; decide)]) S14 rfl
        refine J.run 2 K10_16 [(10, .int .i64 0), (9, .func (.func 33) #[] #[.pointer (some ⟨b3, 0, none⟩)]), (8, .int .i64 (out.length : Int)), (7, .string x), (22, .int .i64 i), (21, .int .i64 ((piecesB 10 s).length : Int)), (20, .slice (some ⟨b2, 0, none⟩) ((piecesB 10 s).length) ((piecesB 10 s).length)), (5, .slice ra out.length rc), (3, .pointer (some ⟨b1, 0, none⟩))] w6 (by kernel_rfl) ?_
        have L10_2 : ∀ (mm_ : Nat) (ra2 : Option Addr) (rc2 : Nat) (out2 : List Tk) (at_ : Int) (w11 : World), (0 ≤ at_) → (at_ ≤ (x.size : Int)) → (out.length ≤ (out2).length ∧ ((out2).length : Int) ≤ out.length + at_) → (tkF s = gT ((ls x).drop (at_).toNat ++ tailL (splitOn 10 (ls s)) i.toNat) (i + 1) (at_ + 1) (decide (out.length < (out2).length)) false out2) → Sep w [box b3 [.int .i64 i] 3, rowOf tkE ra2 rc2 36 4 out2, box b2 ((piecesB 10 s).map Value.string) 9, box b1 [.int .i64 0, .int .i64 0] 25] w11 → ((x.size : Int) - at_).toNat = mm_ → J Tryd.prog 10 111 R K10_16 [(10, .int .i64 at_), (9, .func (.func 33) #[] #[.pointer (some ⟨b3, 0, none⟩)]), (8, .int .i64 (out.length : Int)), (7, .string x), (22, .int .i64 i), (21, .int .i64 ((piecesB 10 s).length : Int)), (20, .slice (some ⟨b2, 0, none⟩) ((piecesB 10 s).length) ((piecesB 10 s).length)), (5, .slice ra2 out2.length rc2), (3, .pointer (some ⟨b1, 0, none⟩))] w11 := by
          intro mm2
          induction mm2 using Nat.strongRecOn with
          | _ mm2 ih2 =>
          intro ra2 rc2 out2 at_ w11 a0 a1 hl2 hG S15 hm2
          refine J.run 8 K10_17 [(33, .bool (decide (at_ < (x.size : Int)))), (10, .int .i64 at_), (9, .func (.func 33) #[] #[.pointer (some ⟨b3, 0, none⟩)]), (8, .int .i64 (out.length : Int)), (7, .string x), (22, .int .i64 i), (21, .int .i64 ((piecesB 10 s).length : Int)), (20, .slice (some ⟨b2, 0, none⟩) ((piecesB 10 s).length) ((piecesB 10 s).length)), (5, .slice ra2 out2.length rc2), (3, .pointer (some ⟨b1, 0, none⟩))] w11 (by kernel_rfl) ?_
          by_cases fk4 : at_ < (x.size : Int)
          · skip
            refine J.head (.bool true) (congrArg Value.bool (decide_eq_true fk4)) ?_
            refine J.run 8 K10_18 [(35, .int .i64 at_), (34, .string x), (10, .int .i64 at_), (9, .func (.func 33) #[] #[.pointer (some ⟨b3, 0, none⟩)]), (8, .int .i64 (out.length : Int)), (7, .string x), (22, .int .i64 i), (21, .int .i64 ((piecesB 10 s).length : Int)), (20, .slice (some ⟨b2, 0, none⟩) ((piecesB 10 s).length) ((piecesB 10 s).length)), (5, .slice ra2 out2.length rc2), (3, .pointer (some ⟨b1, 0, none⟩))] w11 (by kernel_rfl) ?_
            have := byteAt_bounds x (at_).toNat
            refine J.ok (OK.byte 36 9 x at_ (byteAt x (at_).toNat) (by kernel_rfl) (by kernel_rfl) (by omega) (by omega) (rfl)) ?_
            refine J.run 2 K10_19 [(37, .bool ((byteAt x (at_).toNat) == 35)), (10, .int .i64 at_), (9, .func (.func 33) #[] #[.pointer (some ⟨b3, 0, none⟩)]), (8, .int .i64 (out.length : Int)), (7, .string x), (22, .int .i64 i), (21, .int .i64 ((piecesB 10 s).length : Int)), (20, .slice (some ⟨b2, 0, none⟩) ((piecesB 10 s).length) ((piecesB 10 s).length)), (5, .slice ra2 out2.length rc2), (3, .pointer (some ⟨b1, 0, none⟩))] w11 (by kernel_rfl) ?_
            by_cases fk5 : (byteAt x (at_).toNat) = 35
            · skip
              refine J.head (.bool true) (congrArg Value.bool (beq_iff_eq.2 fk5)) ?_
              refine J.run 9 K10_20 [(11, .int .i64 at_), (9, .func (.func 33) #[] #[.pointer (some ⟨b3, 0, none⟩)]), (8, .int .i64 (out.length : Int)), (7, .string x), (22, .int .i64 i), (21, .int .i64 ((piecesB 10 s).length : Int)), (20, .slice (some ⟨b2, 0, none⟩) ((piecesB 10 s).length) ((piecesB 10 s).length)), (5, .slice ra2 out2.length rc2), (3, .pointer (some ⟨b1, 0, none⟩))] w11 (by kernel_rfl) ?_
              have L10_3 : ∀ (mm_ : Nat) (k : Int) (w12 : World), (at_ ≤ k) → (k ≤ (x.size : Int)) → (tkF s = gT ((ls x).drop (k).toNat ++ tailL (splitOn 10 (ls s)) i.toNat) (i + 1) (k + 1) (decide (out.length < out2.length)) true out2) → Sep w [box b3 [.int .i64 i] 3, rowOf tkE ra2 rc2 36 4 out2, box b2 ((piecesB 10 s).map Value.string) 9, box b1 [.int .i64 0, .int .i64 0] 25] w12 → ((x.size : Int) - k).toNat = mm_ → J Tryd.prog 10 111 R K10_20 [(11, .int .i64 k), (9, .func (.func 33) #[] #[.pointer (some ⟨b3, 0, none⟩)]), (8, .int .i64 (out.length : Int)), (7, .string x), (22, .int .i64 i), (21, .int .i64 ((piecesB 10 s).length : Int)), (20, .slice (some ⟨b2, 0, none⟩) ((piecesB 10 s).length) ((piecesB 10 s).length)), (5, .slice ra2 out2.length rc2), (3, .pointer (some ⟨b1, 0, none⟩))] w12 := by
                intro mm3
                induction mm3 using Nat.strongRecOn with
                | _ mm3 ih3 =>
                intro k w12 k0 k1 hC S16 hm3
                refine J.run 8 K10_21 [(42, .bool (decide (k < (x.size : Int)))), (11, .int .i64 k), (9, .func (.func 33) #[] #[.pointer (some ⟨b3, 0, none⟩)]), (8, .int .i64 (out.length : Int)), (7, .string x), (22, .int .i64 i), (21, .int .i64 ((piecesB 10 s).length : Int)), (20, .slice (some ⟨b2, 0, none⟩) ((piecesB 10 s).length) ((piecesB 10 s).length)), (5, .slice ra2 out2.length rc2), (3, .pointer (some ⟨b1, 0, none⟩))] w12 (by kernel_rfl) ?_
                by_cases fk6 : k < (x.size : Int)
                · skip
                  refine J.head (.bool true) (congrArg Value.bool (decide_eq_true fk6)) ?_
                  refine J.run 8 K10_22 [(46, .int .i64 k), (45, .string x), (11, .int .i64 k), (9, .func (.func 33) #[] #[.pointer (some ⟨b3, 0, none⟩)]), (8, .int .i64 (out.length : Int)), (7, .string x), (22, .int .i64 i), (21, .int .i64 ((piecesB 10 s).length : Int)), (20, .slice (some ⟨b2, 0, none⟩) ((piecesB 10 s).length) ((piecesB 10 s).length)), (5, .slice ra2 out2.length rc2), (3, .pointer (some ⟨b1, 0, none⟩))] w12 (by kernel_rfl) ?_
                  have := byteAt_bounds x (k).toNat
                  refine J.ok (OK.byte 47 9 x k (byteAt x (k).toNat) (by kernel_rfl) (by kernel_rfl) (by omega) (by omega) (rfl)) ?_
                  refine J.run 2 K10_23 [(49, .bool (decide ((byteAt x (k).toNat) > 126))), (11, .int .i64 k), (9, .func (.func 33) #[] #[.pointer (some ⟨b3, 0, none⟩)]), (8, .int .i64 (out.length : Int)), (7, .string x), (22, .int .i64 i), (21, .int .i64 ((piecesB 10 s).length : Int)), (20, .slice (some ⟨b2, 0, none⟩) ((piecesB 10 s).length) ((piecesB 10 s).length)), (5, .slice ra2 out2.length rc2), (3, .pointer (some ⟨b1, 0, none⟩))] w12 (by kernel_rfl) ?_
                  by_cases fk7 : (byteAt x (k).toNat) > 126
                  · skip
                    refine J.head (.bool true) (congrArg Value.bool (decide_eq_true fk7)) ?_
                    refine J.run 17 K10_24 [(62, .int .i64 k), (61, .func (.func 33) #[] #[.pointer (some ⟨b3, 0, none⟩)]), (3, .pointer (some ⟨b1, 0, none⟩))] w12 (by kernel_rfl) ?_
                    refine J.callF 63 33 #[.int .i64 k, .pointer (some ⟨b3, 0, none⟩)] hb33 (by kernel_rfl) (place_any i k b3 _ (S16.nth 0 rfl) (by omega) (by omega)) ?_
                    rintro _ w13 ⟨rfl, T3⟩
                    have S17 : Sep w [box b3 [.int .i64 i] 3, rowOf tkE ra2 rc2 36 4 out2, box b2 ((piecesB 10 s).map Value.string) 9, box b1 [.int .i64 0, .int .i64 0] 25] w13 := S16.trans T3
                    refine J.run 1 K10_25 [(2, .slice none 0 0), (63, .agg #[.int .i64 (i + 1), .int .i64 (k + 1)]), (3, .pointer (some ⟨b1, 0, none⟩))] w13 (by kernel_rfl) ?_
                    refine J.stBox S17 3 25 0 (.agg #[.int .i64 (i + 1), .int .i64 (k + 1)]) [.int .i64 (i + 1), .int .i64 (k + 1)] [box b3 [.int .i64 i] 3, rowOf tkE ra2 rc2 36 4 out2, box b2 ((piecesB 10 s).map Value.string) 9, box b1 [.int .i64 (i + 1), .int .i64 (k + 1)] 25] (by kernel_rfl) rfl (by kernel_rfl) (by kernel_rfl) rfl ?_
                    intro w14 S18
                    refine J.run 2 K10_26 [(4, .int .i64 3), (2, .slice none 0 0), (3, .pointer (some ⟨b1, 0, none⟩))] w14 (by kernel_rfl) ?_
                    refine J.ret Tryd.f10 [.slice none 0 0, .agg #[.int .i64 (i + 1), .int .i64 (k + 1)], .int .i64 3] Tryd.func10 ⟨by kernel_rfl, ⟨⟨b1, 0, none⟩, by kernel_rfl, ldV_run (S18.nth 3 rfl) (by kernel_rfl)⟩, by kernel_rfl, trivial⟩ ?_
                    refine hR _ _ ?_
                    have e_ : tkF s = ⟨[], i + 1, k + 1, 3⟩ := hC.trans (lx_bad (by omega) (by omega) hno (by omega))
                    exact ⟨none, 0, by rw [e_]; rfl, by rw [e_]; exact S18.nil.nilRow 36 4⟩
                  · skip
                    refine J.head (.bool false) (congrArg Value.bool (decide_eq_false fk7)) ?_
                    refine J.run 2 K10_27 [(51, .int .i64 k), (50, .string x), (49, .bool false), (11, .int .i64 k), (9, .func (.func 33) #[] #[.pointer (some ⟨b3, 0, none⟩)]), (8, .int .i64 (out.length : Int)), (7, .string x), (22, .int .i64 i), (21, .int .i64 ((piecesB 10 s).length : Int)), (20, .slice (some ⟨b2, 0, none⟩) ((piecesB 10 s).length) ((piecesB 10 s).length)), (5, .slice ra2 out2.length rc2), (3, .pointer (some ⟨b1, 0, none⟩))] w12 (by kernel_rfl) ?_
                    have := byteAt_bounds x (k).toNat
                    refine J.ok (OK.byte 52 9 x k (byteAt x (k).toNat) (by kernel_rfl) (by kernel_rfl) (by omega) (by omega) (rfl)) ?_
                    refine J.run 2 K10_28 [(54, .bool (decide ((byteAt x (k).toNat) < 32))), (49, .bool false), (11, .int .i64 k), (9, .func (.func 33) #[] #[.pointer (some ⟨b3, 0, none⟩)]), (8, .int .i64 (out.length : Int)), (7, .string x), (22, .int .i64 i), (21, .int .i64 ((piecesB 10 s).length : Int)), (20, .slice (some ⟨b2, 0, none⟩) ((piecesB 10 s).length) ((piecesB 10 s).length)), (5, .slice ra2 out2.length rc2), (3, .pointer (some ⟨b1, 0, none⟩))] w12 (by kernel_rfl) ?_
                    by_cases fk8 : (byteAt x (k).toNat) < 32
                    · skip
                      refine J.head (.bool true) (congrArg Value.bool (decide_eq_true fk8)) ?_
                      refine J.run 2 K10_29 [(56, .int .i64 k), (55, .string x), (54, .bool true), (49, .bool false), (11, .int .i64 k), (9, .func (.func 33) #[] #[.pointer (some ⟨b3, 0, none⟩)]), (8, .int .i64 (out.length : Int)), (7, .string x), (22, .int .i64 i), (21, .int .i64 ((piecesB 10 s).length : Int)), (20, .slice (some ⟨b2, 0, none⟩) ((piecesB 10 s).length) ((piecesB 10 s).length)), (5, .slice ra2 out2.length rc2), (3, .pointer (some ⟨b1, 0, none⟩))] w12 (by kernel_rfl) ?_
                      have := byteAt_bounds x (k).toNat
                      refine J.ok (OK.byte 57 9 x k (byteAt x (k).toNat) (by kernel_rfl) (by kernel_rfl) (by omega) (by omega) (rfl)) ?_
                      refine J.run 4 K10_30 [(60, .bool ((byteAt x (k).toNat) != 9)), (11, .int .i64 k), (9, .func (.func 33) #[] #[.pointer (some ⟨b3, 0, none⟩)]), (8, .int .i64 (out.length : Int)), (7, .string x), (22, .int .i64 i), (21, .int .i64 ((piecesB 10 s).length : Int)), (20, .slice (some ⟨b2, 0, none⟩) ((piecesB 10 s).length) ((piecesB 10 s).length)), (5, .slice ra2 out2.length rc2), (3, .pointer (some ⟨b1, 0, none⟩))] w12 (by kernel_rfl) ?_
                      by_cases fk9 : (byteAt x (k).toNat) = 9
                      · skip
                        refine J.head (.bool false) (congrArg Value.bool (bne_eq_false_iff_eq.2 fk9)) ?_
                        refine J.run 6 K10_31 [(44, .int .i64 (IntKind.wrap .i64 (k + 1))), (9, .func (.func 33) #[] #[.pointer (some ⟨b3, 0, none⟩)]), (8, .int .i64 (out.length : Int)), (7, .string x), (22, .int .i64 i), (21, .int .i64 ((piecesB 10 s).length : Int)), (20, .slice (some ⟨b2, 0, none⟩) ((piecesB 10 s).length) ((piecesB 10 s).length)), (5, .slice ra2 out2.length rc2), (3, .pointer (some ⟨b1, 0, none⟩))] w12 (by kernel_rfl) ?_
                        refine J.head (.int .i64 (k + 1)) (congrArg (Value.int .i64) (IntWalk.i64_in _ (by omega))) ?_
                        refine J.run 3 K10_20 [(11, .int .i64 (k + 1)), (9, .func (.func 33) #[] #[.pointer (some ⟨b3, 0, none⟩)]), (8, .int .i64 (out.length : Int)), (7, .string x), (22, .int .i64 i), (21, .int .i64 ((piecesB 10 s).length : Int)), (20, .slice (some ⟨b2, 0, none⟩) ((piecesB 10 s).length) ((piecesB 10 s).length)), (5, .slice ra2 out2.length rc2), (3, .pointer (some ⟨b1, 0, none⟩))] w12 (by kernel_rfl) ?_
                        refine J.run 0 K10_20 [(11, .int .i64 (k + 1)), (9, .func (.func 33) #[] #[.pointer (some ⟨b3, 0, none⟩)]), (8, .int .i64 (out.length : Int)), (7, .string x), (22, .int .i64 i), (21, .int .i64 ((piecesB 10 s).length : Int)), (20, .slice (some ⟨b2, 0, none⟩) ((piecesB 10 s).length) ((piecesB 10 s).length)), (5, .slice ra2 out2.length rc2), (3, .pointer (some ⟨b1, 0, none⟩))] w12 (by kernel_rfl) ?_
                        exact ih3 _ (show ((x.size : Int) - (k + 1)).toNat < mm3 from by omega) (k + 1) w12 (by omega) (by omega) (hC.trans (lx_comment (by omega) (by omega) hno (by omega))) S16 rfl
                      · skip
                        refine J.head (.bool true) (congrArg Value.bool (bne_iff_ne.2 fk9)) ?_
                        refine J.run 5 K10_32 [(62, .int .i64 k), (61, .func (.func 33) #[] #[.pointer (some ⟨b3, 0, none⟩)]), (3, .pointer (some ⟨b1, 0, none⟩))] w12 (by kernel_rfl) ?_
                        refine J.callF 63 33 #[.int .i64 k, .pointer (some ⟨b3, 0, none⟩)] hb33 (by kernel_rfl) (place_any i k b3 _ (S16.nth 0 rfl) (by omega) (by omega)) ?_
                        rintro _ w15 ⟨rfl, T4⟩
                        have S19 : Sep w [box b3 [.int .i64 i] 3, rowOf tkE ra2 rc2 36 4 out2, box b2 ((piecesB 10 s).map Value.string) 9, box b1 [.int .i64 0, .int .i64 0] 25] w15 := S16.trans T4
                        refine J.run 1 K10_33 [(2, .slice none 0 0), (63, .agg #[.int .i64 (i + 1), .int .i64 (k + 1)]), (3, .pointer (some ⟨b1, 0, none⟩))] w15 (by kernel_rfl) ?_
                        refine J.stBox S19 3 25 0 (.agg #[.int .i64 (i + 1), .int .i64 (k + 1)]) [.int .i64 (i + 1), .int .i64 (k + 1)] [box b3 [.int .i64 i] 3, rowOf tkE ra2 rc2 36 4 out2, box b2 ((piecesB 10 s).map Value.string) 9, box b1 [.int .i64 (i + 1), .int .i64 (k + 1)] 25] (by kernel_rfl) rfl (by kernel_rfl) (by kernel_rfl) rfl ?_
                        intro w16 S20
                        refine J.run 2 K10_34 [(4, .int .i64 3), (2, .slice none 0 0), (3, .pointer (some ⟨b1, 0, none⟩))] w16 (by kernel_rfl) ?_
                        refine J.ret Tryd.f10 [.slice none 0 0, .agg #[.int .i64 (i + 1), .int .i64 (k + 1)], .int .i64 3] Tryd.func10 ⟨by kernel_rfl, ⟨⟨b1, 0, none⟩, by kernel_rfl, ldV_run (S20.nth 3 rfl) (by kernel_rfl)⟩, by kernel_rfl, trivial⟩ ?_
                        refine hR _ _ ?_
                        have e_ : tkF s = ⟨[], i + 1, k + 1, 3⟩ := hC.trans (lx_bad (by omega) (by omega) hno (by omega))
                        exact ⟨none, 0, by rw [e_]; rfl, by rw [e_]; exact S20.nil.nilRow 36 4⟩
                    · skip
                      refine J.head (.bool false) (congrArg Value.bool (decide_eq_false fk8)) ?_
                      refine J.run 13 K10_35 [(44, .int .i64 (IntKind.wrap .i64 (k + 1))), (9, .func (.func 33) #[] #[.pointer (some ⟨b3, 0, none⟩)]), (8, .int .i64 (out.length : Int)), (7, .string x), (22, .int .i64 i), (21, .int .i64 ((piecesB 10 s).length : Int)), (20, .slice (some ⟨b2, 0, none⟩) ((piecesB 10 s).length) ((piecesB 10 s).length)), (5, .slice ra2 out2.length rc2), (3, .pointer (some ⟨b1, 0, none⟩))] w12 (by kernel_rfl) ?_
                      refine J.head (.int .i64 (k + 1)) (congrArg (Value.int .i64) (IntWalk.i64_in _ (by omega))) ?_
                      refine J.run 3 K10_20 [(11, .int .i64 (k + 1)), (9, .func (.func 33) #[] #[.pointer (some ⟨b3, 0, none⟩)]), (8, .int .i64 (out.length : Int)), (7, .string x), (22, .int .i64 i), (21, .int .i64 ((piecesB 10 s).length : Int)), (20, .slice (some ⟨b2, 0, none⟩) ((piecesB 10 s).length) ((piecesB 10 s).length)), (5, .slice ra2 out2.length rc2), (3, .pointer (some ⟨b1, 0, none⟩))] w12 (by kernel_rfl) ?_
                      refine J.run 0 K10_20 [(11, .int .i64 (k + 1)), (9, .func (.func 33) #[] #[.pointer (some ⟨b3, 0, none⟩)]), (8, .int .i64 (out.length : Int)), (7, .string x), (22, .int .i64 i), (21, .int .i64 ((piecesB 10 s).length : Int)), (20, .slice (some ⟨b2, 0, none⟩) ((piecesB 10 s).length) ((piecesB 10 s).length)), (5, .slice ra2 out2.length rc2), (3, .pointer (some ⟨b1, 0, none⟩))] w12 (by kernel_rfl) ?_
                      exact ih3 _ (show ((x.size : Int) - (k + 1)).toNat < mm3 from by omega) (k + 1) w12 (by omega) (by omega) (hC.trans (lx_comment (by omega) (by omega) hno (by omega))) S16 rfl
                · skip
                  refine J.head (.bool false) (congrArg Value.bool (decide_eq_false fk6)) ?_
                  refine J.run 3 K10_10 [(9, .func (.func 33) #[] #[.pointer (some ⟨b3, 0, none⟩)]), (8, .int .i64 (out.length : Int)), (7, .string x), (22, .int .i64 i), (21, .int .i64 ((piecesB 10 s).length : Int)), (20, .slice (some ⟨b2, 0, none⟩) ((piecesB 10 s).length) ((piecesB 10 s).length)), (3, .pointer (some ⟨b1, 0, none⟩)), (5, .slice ra2 out2.length rc2)] w12 (by kernel_rfl) ?_
                  exact X1 ra2 rc2 out2 w12 (⟨by omega, by omega⟩) ((by first | exact (hC.trans (by rw [show k = (x.size : Int) by omega]; exact lx_end (by omega) (by omega) (Int.le_refl _) _ _ _ _)) | exact (hG.trans (by rw [show at_ = (x.size : Int) by omega]; exact lx_end (by omega) (by omega) (Int.le_refl _) _ _ _ _)))) S16
              exact L10_3 _ at_ w11 (by omega) (by omega) (hG.trans (lx_hash a0 (by omega) (by omega))) S15 rfl
            · skip
              refine J.head (.bool false) (congrArg Value.bool (beq_eq_false_iff_ne.2 fk5)) ?_
              refine J.run 6 K10_36 [(66, .int .i64 at_), (65, .string x), (10, .int .i64 at_), (9, .func (.func 33) #[] #[.pointer (some ⟨b3, 0, none⟩)]), (8, .int .i64 (out.length : Int)), (7, .string x), (22, .int .i64 i), (21, .int .i64 ((piecesB 10 s).length : Int)), (20, .slice (some ⟨b2, 0, none⟩) ((piecesB 10 s).length) ((piecesB 10 s).length)), (5, .slice ra2 out2.length rc2), (3, .pointer (some ⟨b1, 0, none⟩))] w11 (by kernel_rfl) ?_
              refine J.callF 67 34 #[.string x, .int .i64 at_] hb34 (by kernel_rfl) (scan_any x at_ _ (by omega) (by omega) (tabW_sep hW S15)) ?_
              rintro _ w17 ⟨rfl, T5⟩
              have S21 : Sep w [box b3 [.int .i64 i] 3, rowOf tkE ra2 rc2 36 4 out2, box b2 ((piecesB 10 s).map Value.string) 9, box b1 [.int .i64 0, .int .i64 0] 25] w17 := S15.trans T5
              clear T5 S15
              refine J.run 14 K10_37 [(72, .bool (((tokAt ((ls x).drop (at_).toNat)).2.2) != 0)), (14, .int .i64 ((tokAt ((ls x).drop (at_).toNat)).2.2)), (13, .int .i64 ((tokAt ((ls x).drop (at_).toNat)).2.1 : Int)), (12, .int .i64 ((tokAt ((ls x).drop (at_).toNat)).1)), (10, .int .i64 at_), (9, .func (.func 33) #[] #[.pointer (some ⟨b3, 0, none⟩)]), (8, .int .i64 (out.length : Int)), (7, .string x), (22, .int .i64 i), (21, .int .i64 ((piecesB 10 s).length : Int)), (20, .slice (some ⟨b2, 0, none⟩) ((piecesB 10 s).length) ((piecesB 10 s).length)), (5, .slice ra2 out2.length rc2), (3, .pointer (some ⟨b1, 0, none⟩))] w17 (by kernel_rfl) ?_
              by_cases fk10 : ((tokAt ((ls x).drop (at_).toNat)).2.2) = 0
              · skip
                refine J.head (.bool false) (congrArg Value.bool (bne_eq_false_iff_eq.2 fk10)) ?_
                have htl := tok_len (r := (ls x).drop (at_).toNat) (by omega); rw [List.length_drop, ls_length] at htl
                refine J.run 8 K10_38 [(78, .bool (decide (((tokAt ((ls x).drop (at_).toNat)).1) > 0))), (13, .int .i64 ((tokAt ((ls x).drop (at_).toNat)).2.1 : Int)), (12, .int .i64 ((tokAt ((ls x).drop (at_).toNat)).1)), (10, .int .i64 at_), (9, .func (.func 33) #[] #[.pointer (some ⟨b3, 0, none⟩)]), (8, .int .i64 (out.length : Int)), (7, .string x), (22, .int .i64 i), (21, .int .i64 ((piecesB 10 s).length : Int)), (20, .slice (some ⟨b2, 0, none⟩) ((piecesB 10 s).length) ((piecesB 10 s).length)), (5, .slice ra2 out2.length rc2), (3, .pointer (some ⟨b1, 0, none⟩))] w17 (by kernel_rfl) ?_
                by_cases fk11 : ((tokAt ((ls x).drop (at_).toNat)).1) > 0
                · skip
                  refine J.head (.bool true) (congrArg Value.bool (decide_eq_true fk11)) ?_
                  refine J.run 1 K10_39 [(13, .int .i64 ((tokAt ((ls x).drop (at_).toNat)).2.1 : Int)), (12, .int .i64 ((tokAt ((ls x).drop (at_).toNat)).1)), (10, .int .i64 at_), (9, .func (.func 33) #[] #[.pointer (some ⟨b3, 0, none⟩)]), (8, .int .i64 (out.length : Int)), (7, .string x), (22, .int .i64 i), (21, .int .i64 ((piecesB 10 s).length : Int)), (20, .slice (some ⟨b2, 0, none⟩) ((piecesB 10 s).length) ((piecesB 10 s).length)), (5, .slice ra2 out2.length rc2), (3, .pointer (some ⟨b1, 0, none⟩))] w17 (by kernel_rfl) ?_
                  refine J.drawPlan (fun w_ => Sep w [box b3 [.int .i64 i] 3, box b2 ((piecesB 10 s).map Value.string) 9, box b1 [.int .i64 0, .int .i64 0] 25] w_) [(0, true), (1, true), (2, true), (3, true), (4, true), (5, true), (6, true), (7, true), (8, true), (9, true), (10, false), (11, true), (12, false), (13, false), (14, true)] S21 Tryd.mixed (by kernel_rfl) (planOK_of (T := [(0, some 79, 32), (0, some 80, 4096), (0, some 81, 128), (0, some 82, 1024), (0, some 83, 1024), (0, some 84, 8192), (48, some 85, 29014219670751100192948224), (76, some 86, 45939181145355908638834688), (0, some 87, 512), (0, some 88, 1024), (768, some 89, 464227514732017603087171584), (1154, some 90, 697550197917641033805463552), (2048, some 91, 1237940039285380274899124224), (5121, some 92, 2476484541480567864385601536), (16383, some 5, 4951760157141521099596496896)]) (by kernel_rfl) (by kernel_rfl)) ?_
                  intro w18 S22
                  refine PB.mk (S22.sub (.cons_cons _ (.cons _ (.cons_cons _ (.cons_cons _ (.slnil)))))) ?_
                  refine PL.take 0 79 (.slice ra2 out2.length rc2) (fun _ _ => by kernel_rfl) ?_
                  refine PL.take 1 80 (.int .i64 ((tokAt ((ls x).drop (at_).toNat)).1)) (fun _ _ => by kernel_rfl) ?_
                  refine PL.take 2 81 (.string x) (fun _ _ => by kernel_rfl) ?_
                  refine PL.take 3 82 (.int .i64 at_) (fun _ _ => by kernel_rfl) ?_
                  refine PL.take 4 83 (.int .i64 at_) (fun _ _ => by kernel_rfl) ?_
                  refine PL.take 5 84 (.int .i64 ((tokAt ((ls x).drop (at_).toNat)).2.1 : Int)) (fun _ _ => by kernel_rfl) ?_
                  refine PL.take 6 85 (.int .i64 (IntKind.wrap .i64 (at_ + ((tokAt ((ls x).drop (at_).toNat)).2.1 : Int)))) (fun _ _ => by kernel_rfl) ?_
                  refine PL.head (.int .i64 (at_ + ((tokAt ((ls x).drop (at_).toNat)).2.1 : Int))) (congrArg (Value.int .i64) (IntWalk.i64_in _ (by omega))) ?_
                  refine PL.takeOK 7 (fun w_ S_ => OK.sliceT 86 9 x (some (.int .i64 at_)) (some (.int .i64 (at_ + ((tokAt ((ls x).drop (at_).toNat)).2.1 : Int)))) ((at_).toNat) ((at_ + ((tokAt ((ls x).drop (at_).toNat)).2.1 : Int)).toNat) (by kernel_rfl) (by kernel_rfl) (.inr ⟨_, _, rfl, by omega⟩) (.inr ⟨_, _, rfl, by omega⟩) (by first | omega | (simp; omega)) (by first | omega | (simp; omega))) rfl ?_
                  refine PL.take 8 87 (.func (.func 33) #[] #[.pointer (some ⟨b3, 0, none⟩)]) (fun _ _ => by kernel_rfl) ?_
                  refine PL.take 9 88 (.int .i64 at_) (fun _ _ => by kernel_rfl) ?_
                  refine PL.callF 89 33 #[.int .i64 at_, .pointer (some ⟨b3, 0, none⟩)] hb33 (by kernel_rfl) (place_any i at_ b3 _ (S22.nth 0 rfl) (by omega) (by omega)) ?_
                  rintro _ w19 ⟨rfl, T6⟩
                  have S23 : Sep w [box b3 [.int .i64 i] 3, rowOf tkE ra2 rc2 36 4 out2, box b2 ((piecesB 10 s).map Value.string) 9, box b1 [.int .i64 0, .int .i64 0] 25] w19 := S22.trans T6
                  refine PB.mk (S23.sub (.cons_cons _ (.cons _ (.cons_cons _ (.cons_cons _ (.slnil)))))) ?_
                  refine PL.take 11 90 (.agg #[.int .i64 ((tokAt ((ls x).drop (at_).toNat)).1), .string (x.extract ((at_).toNat) ((at_ + ((tokAt ((ls x).drop (at_).toNat)).2.1 : Int)).toNat)), .int .i64 (i + 1), .int .i64 (at_ + 1)]) (fun _ _ => by kernel_rfl) ?_
                  refine PL.newSlice S23 91 1 [.int .i64 ((tokAt ((ls x).drop (at_).toNat)).1), .string (x.extract ((at_).toNat) ((at_ + ((tokAt ((ls x).drop (at_).toNat)).2.1 : Int)).toNat)), .int .i64 (i + 1), .int .i64 (at_ + 1)] 36 (by kernel_rfl) ?_
                  intro b5 w20 S24
                  refine PB.mk (S24.sub (.cons _ (.cons_cons _ (.cons _ (.cons_cons _ (.cons_cons _ (.slnil))))))) ?_
                  refine PL.append tkE S24 2 out2 (⟨(tokAt ((ls x).drop (at_).toNat)).1, (x.extract ((at_).toNat) ((at_ + ((tokAt ((ls x).drop (at_).toNat)).2.1 : Int)).toNat)), i + 1, at_ + 1⟩ : Tk) 92 23 (.agg #[.int .i64 0, .string ByteArray.empty, .int .i64 0, .int .i64 0]) 40 ⟨b5, 0, none⟩ 1 rfl (by kernel_rfl) (by kernel_rfl) (by kernel_rfl) (by kernel_rfl) (by decide) (box_cells (S24.nth 0 rfl)) (by kernel_rfl) (by kernel_rfl) (⟨by omega, by omega⟩) ?_
                  intro ra2 rc2 w21 S25
                  replace S25 : Sep w [box b5 [.int .i64 ((tokAt ((ls x).drop (at_).toNat)).1), .string (x.extract ((at_).toNat) ((at_ + ((tokAt ((ls x).drop (at_).toNat)).2.1 : Int)).toNat)), .int .i64 (i + 1), .int .i64 (at_ + 1)] 36, box b3 [.int .i64 i] 3, rowOf tkE ra2 rc2 36 4 (out2 ++ [(⟨(tokAt ((ls x).drop (at_).toNat)).1, (x.extract ((at_).toNat) ((at_ + ((tokAt ((ls x).drop (at_).toNat)).2.1 : Int)).toNat)), i + 1, at_ + 1⟩ : Tk)]), box b2 ((piecesB 10 s).map Value.string) 9, box b1 [.int .i64 0, .int .i64 0] 25] w21 := S25
                  have S26 : Sep w [box b3 [.int .i64 i] 3, rowOf tkE ra2 rc2 36 4 (out2 ++ [(⟨(tokAt ((ls x).drop (at_).toNat)).1, (x.extract ((at_).toNat) ((at_ + ((tokAt ((ls x).drop (at_).toNat)).2.1 : Int)).toNat)), i + 1, at_ + 1⟩ : Tk)]), box b2 ((piecesB 10 s).map Value.string) 9, box b1 [.int .i64 0, .int .i64 0] 25] w21 := S25.erase 0
                  clear S25
                  refine PB.mk (S26.sub (.cons_cons _ (.cons _ (.cons_cons _ (.cons_cons _ (.slnil)))))) ?_
                  refine PL.take 14 5 (.slice ra2 ((out2 ++ [(⟨(tokAt ((ls x).drop (at_).toNat)).1, (x.extract ((at_).toNat) ((at_ + ((tokAt ((ls x).drop (at_).toNat)).2.1 : Int)).toNat)), i + 1, at_ + 1⟩ : Tk)]).length) rc2) (fun _ _ => by kernel_rfl) ?_
                  refine PL.done ?_
                  refine J.run 0 (rRest K10_39) [(5, .slice ra2 ((out2 ++ [(⟨(tokAt ((ls x).drop (at_).toNat)).1, (x.extract ((at_).toNat) ((at_ + ((tokAt ((ls x).drop (at_).toNat)).2.1 : Int)).toNat)), i + 1, at_ + 1⟩ : Tk)]).length) rc2), (13, .int .i64 ((tokAt ((ls x).drop (at_).toNat)).2.1 : Int)), (10, .int .i64 at_), (9, .func (.func 33) #[] #[.pointer (some ⟨b3, 0, none⟩)]), (8, .int .i64 (out.length : Int)), (7, .string x), (22, .int .i64 i), (21, .int .i64 ((piecesB 10 s).length : Int)), (20, .slice (some ⟨b2, 0, none⟩) ((piecesB 10 s).length) ((piecesB 10 s).length)), (3, .pointer (some ⟨b1, 0, none⟩))] w21 (by kernel_rfl) ?_
                  refine J.run 4 K10_40 [(95, .int .i64 (IntKind.wrap .i64 (at_ + ((tokAt ((ls x).drop (at_).toNat)).2.1 : Int)))), (5, .slice ra2 ((out2 ++ [(⟨(tokAt ((ls x).drop (at_).toNat)).1, (x.extract ((at_).toNat) ((at_ + ((tokAt ((ls x).drop (at_).toNat)).2.1 : Int)).toNat)), i + 1, at_ + 1⟩ : Tk)]).length) rc2), (9, .func (.func 33) #[] #[.pointer (some ⟨b3, 0, none⟩)]), (8, .int .i64 (out.length : Int)), (7, .string x), (22, .int .i64 i), (21, .int .i64 ((piecesB 10 s).length : Int)), (20, .slice (some ⟨b2, 0, none⟩) ((piecesB 10 s).length) ((piecesB 10 s).length)), (3, .pointer (some ⟨b1, 0, none⟩))] w21 (by kernel_rfl) ?_
                  refine J.head (.int .i64 (at_ + ((tokAt ((ls x).drop (at_).toNat)).2.1 : Int))) (congrArg (Value.int .i64) (IntWalk.i64_in _ (by omega))) ?_
                  refine J.run 4 K10_16 [(10, .int .i64 (at_ + ((tokAt ((ls x).drop (at_).toNat)).2.1 : Int))), (5, .slice ra2 ((out2 ++ [(⟨(tokAt ((ls x).drop (at_).toNat)).1, (x.extract ((at_).toNat) ((at_ + ((tokAt ((ls x).drop (at_).toNat)).2.1 : Int)).toNat)), i + 1, at_ + 1⟩ : Tk)]).length) rc2), (9, .func (.func 33) #[] #[.pointer (some ⟨b3, 0, none⟩)]), (8, .int .i64 (out.length : Int)), (7, .string x), (22, .int .i64 i), (21, .int .i64 ((piecesB 10 s).length : Int)), (20, .slice (some ⟨b2, 0, none⟩) ((piecesB 10 s).length) ((piecesB 10 s).length)), (3, .pointer (some ⟨b1, 0, none⟩))] w21 (by kernel_rfl) ?_
                  refine J.run 0 K10_16 [(10, .int .i64 (at_ + ((tokAt ((ls x).drop (at_).toNat)).2.1 : Int))), (9, .func (.func 33) #[] #[.pointer (some ⟨b3, 0, none⟩)]), (8, .int .i64 (out.length : Int)), (7, .string x), (22, .int .i64 i), (21, .int .i64 ((piecesB 10 s).length : Int)), (20, .slice (some ⟨b2, 0, none⟩) ((piecesB 10 s).length) ((piecesB 10 s).length)), (5, .slice ra2 ((out2 ++ [(⟨(tokAt ((ls x).drop (at_).toNat)).1, (x.extract ((at_).toNat) ((at_ + ((tokAt ((ls x).drop (at_).toNat)).2.1 : Int)).toNat)), i + 1, at_ + 1⟩ : Tk)]).length) rc2), (3, .pointer (some ⟨b1, 0, none⟩))] w21 (by kernel_rfl) ?_
                  exact ih2 _ (show ((x.size : Int) - (at_ + ((tokAt ((ls x).drop (at_).toNat)).2.1 : Int))).toNat < mm2 from by omega) ra2 rc2 (out2 ++ [(⟨(tokAt ((ls x).drop (at_).toNat)).1, (x.extract ((at_).toNat) ((at_ + ((tokAt ((ls x).drop (at_).toNat)).2.1 : Int)).toNat)), i + 1, at_ + 1⟩ : Tk)]) (at_ + ((tokAt ((ls x).drop (at_).toNat)).2.1 : Int)) w21 (by omega) (by omega) (⟨by (try rw [List.length_append, List.length_singleton]); omega, by (try rw [List.length_append, List.length_singleton]); omega⟩) ((by have h_ := hG.trans (lx_tok1 a0 (by omega) hno (by omega) (tailL_or _ _) (by omega) (by omega)); rw [sm_more (by omega)]; exact h_)) S26 rfl
                · skip
                  refine J.head (.bool false) (congrArg Value.bool (decide_eq_false fk11)) ?_
                  refine J.run 6 K10_41 [(95, .int .i64 (IntKind.wrap .i64 (at_ + ((tokAt ((ls x).drop (at_).toNat)).2.1 : Int)))), (9, .func (.func 33) #[] #[.pointer (some ⟨b3, 0, none⟩)]), (8, .int .i64 (out.length : Int)), (7, .string x), (22, .int .i64 i), (21, .int .i64 ((piecesB 10 s).length : Int)), (20, .slice (some ⟨b2, 0, none⟩) ((piecesB 10 s).length) ((piecesB 10 s).length)), (5, .slice ra2 out2.length rc2), (3, .pointer (some ⟨b1, 0, none⟩))] w17 (by kernel_rfl) ?_
                  refine J.head (.int .i64 (at_ + ((tokAt ((ls x).drop (at_).toNat)).2.1 : Int))) (congrArg (Value.int .i64) (IntWalk.i64_in _ (by omega))) ?_
                  refine J.run 4 K10_16 [(10, .int .i64 (at_ + ((tokAt ((ls x).drop (at_).toNat)).2.1 : Int))), (9, .func (.func 33) #[] #[.pointer (some ⟨b3, 0, none⟩)]), (8, .int .i64 (out.length : Int)), (7, .string x), (22, .int .i64 i), (21, .int .i64 ((piecesB 10 s).length : Int)), (20, .slice (some ⟨b2, 0, none⟩) ((piecesB 10 s).length) ((piecesB 10 s).length)), (5, .slice ra2 out2.length rc2), (3, .pointer (some ⟨b1, 0, none⟩))] w17 (by kernel_rfl) ?_
                  refine J.run 0 K10_16 [(10, .int .i64 (at_ + ((tokAt ((ls x).drop (at_).toNat)).2.1 : Int))), (9, .func (.func 33) #[] #[.pointer (some ⟨b3, 0, none⟩)]), (8, .int .i64 (out.length : Int)), (7, .string x), (22, .int .i64 i), (21, .int .i64 ((piecesB 10 s).length : Int)), (20, .slice (some ⟨b2, 0, none⟩) ((piecesB 10 s).length) ((piecesB 10 s).length)), (5, .slice ra2 out2.length rc2), (3, .pointer (some ⟨b1, 0, none⟩))] w17 (by kernel_rfl) ?_
                  exact ih2 _ (show ((x.size : Int) - (at_ + ((tokAt ((ls x).drop (at_).toNat)).2.1 : Int))).toNat < mm2 from by omega) ra2 rc2 out2 (at_ + ((tokAt ((ls x).drop (at_).toNat)).2.1 : Int)) w17 (by omega) (by omega) (⟨by (try rw [List.length_append, List.length_singleton]); omega, by (try rw [List.length_append, List.length_singleton]); omega⟩) (hG.trans (lx_tok0 a0 (by omega) hno (by omega) (tailL_or _ _) (by omega) (by omega))) S21 rfl
              · skip
                refine J.head (.bool true) (congrArg Value.bool (bne_iff_ne.2 fk10)) ?_
                refine J.run 5 K10_42 [(74, .int .i64 at_), (73, .func (.func 33) #[] #[.pointer (some ⟨b3, 0, none⟩)]), (14, .int .i64 ((tokAt ((ls x).drop (at_).toNat)).2.2)), (3, .pointer (some ⟨b1, 0, none⟩))] w17 (by kernel_rfl) ?_
                refine J.callF 75 33 #[.int .i64 at_, .pointer (some ⟨b3, 0, none⟩)] hb33 (by kernel_rfl) (place_any i at_ b3 _ (S21.nth 0 rfl) (by omega) (by omega)) ?_
                rintro _ w22 ⟨rfl, T7⟩
                have S27 : Sep w [box b3 [.int .i64 i] 3, rowOf tkE ra2 rc2 36 4 out2, box b2 ((piecesB 10 s).map Value.string) 9, box b1 [.int .i64 0, .int .i64 0] 25] w22 := S21.trans T7
                refine J.run 2 K10_43 [(2, .slice none 0 0), (76, .int .i64 ((tokAt ((ls x).drop (at_).toNat)).2.2)), (75, .agg #[.int .i64 (i + 1), .int .i64 (at_ + 1)]), (3, .pointer (some ⟨b1, 0, none⟩))] w22 (by kernel_rfl) ?_
                refine J.stBox S27 3 25 0 (.agg #[.int .i64 (i + 1), .int .i64 (at_ + 1)]) [.int .i64 (i + 1), .int .i64 (at_ + 1)] [box b3 [.int .i64 i] 3, rowOf tkE ra2 rc2 36 4 out2, box b2 ((piecesB 10 s).map Value.string) 9, box b1 [.int .i64 (i + 1), .int .i64 (at_ + 1)] 25] (by kernel_rfl) rfl (by kernel_rfl) (by kernel_rfl) rfl ?_
                intro w23 S28
                refine J.run 2 K10_44 [(4, .int .i64 ((tokAt ((ls x).drop (at_).toNat)).2.2)), (2, .slice none 0 0), (3, .pointer (some ⟨b1, 0, none⟩))] w23 (by kernel_rfl) ?_
                refine J.ret Tryd.f10 [.slice none 0 0, .agg #[.int .i64 (i + 1), .int .i64 (at_ + 1)], .int .i64 ((tokAt ((ls x).drop (at_).toNat)).2.2)] Tryd.func10 ⟨by kernel_rfl, ⟨⟨b1, 0, none⟩, by kernel_rfl, ldV_run (S28.nth 3 rfl) (by kernel_rfl)⟩, by kernel_rfl, trivial⟩ ?_
                refine hR _ _ ?_
                have e_ : tkF s = ⟨[], i + 1, at_ + 1, (tokAt ((ls x).drop (at_).toNat)).2.2⟩ := hG.trans (lx_err (by omega) (by omega) hno (by omega) (tailL_or _ _) (by omega))
                exact ⟨none, 0, by rw [e_]; rfl, by rw [e_]; exact S28.nil.nilRow 36 4⟩
          · skip
            refine J.head (.bool false) (congrArg Value.bool (decide_eq_false fk4)) ?_
            refine J.run 2 K10_10 [(9, .func (.func 33) #[] #[.pointer (some ⟨b3, 0, none⟩)]), (8, .int .i64 (out.length : Int)), (7, .string x), (22, .int .i64 i), (21, .int .i64 ((piecesB 10 s).length : Int)), (20, .slice (some ⟨b2, 0, none⟩) ((piecesB 10 s).length) ((piecesB 10 s).length)), (3, .pointer (some ⟨b1, 0, none⟩)), (5, .slice ra2 out2.length rc2)] w11 (by kernel_rfl) ?_
            exact X1 ra2 rc2 out2 w11 (⟨by omega, by omega⟩) ((by first | exact (hC.trans (by rw [show k = (x.size : Int) by omega]; exact lx_end (by omega) (by omega) (Int.le_refl _) _ _ _ _)) | exact (hG.trans (by rw [show at_ = (x.size : Int) by omega]; exact lx_end (by omega) (by omega) (Int.le_refl _) _ _ _ _)))) S15
        exact L10_2 _ ra rc out 0 w6 (by omega) (by omega) (⟨by omega, by omega⟩) (by rw [decide_eq_false (Nat.lt_irrefl _)]; exact hG0) S7 rfl
      · skip
        refine J.head (.bool false) (congrArg Value.bool (decide_eq_false fk2)) ?_
        refine J.run 7 K10_45 [(2, .slice ra out.length rc), (110, .agg #[.int .i64 0, .int .i64 0]), (3, .pointer (some ⟨b1, 0, none⟩))] w4 (by kernel_rfl) ?_
        refine J.stBox S5 2 25 0 (.agg #[.int .i64 0, .int .i64 0]) [.int .i64 0, .int .i64 0] [rowOf tkE ra rc 36 4 out, box b2 ((piecesB 10 s).map Value.string) 9, box b1 [.int .i64 0, .int .i64 0] 25] (by kernel_rfl) rfl (by kernel_rfl) (by kernel_rfl) rfl ?_
        intro w24 S29
        refine J.run 2 K10_46 [(4, .int .i64 0), (2, .slice ra out.length rc), (3, .pointer (some ⟨b1, 0, none⟩))] w24 (by kernel_rfl) ?_
        refine J.ret Tryd.f10 [.slice ra out.length rc, .agg #[.int .i64 0, .int .i64 0], .int .i64 0] Tryd.func10 ⟨by kernel_rfl, ⟨⟨b1, 0, none⟩, by kernel_rfl, ldV_run (S29.nth 2 rfl) (by kernel_rfl)⟩, by kernel_rfl, trivial⟩ ?_
        refine hR _ _ ?_
        have e_ : tkF s = ⟨out, 0, 0, 0⟩ := hQ.trans (line_done (by omega) out)
        exact ⟨_, _, by rw [e_]; rfl, by rw [e_]; exact S29.pick 0 rfl⟩
    exact L10_1 _ none 0 ([]) 0 w3 (by omega) (by omega) (by simp) (line_first s (by omega)) S4 rfl

end Go.Proofs.YtlklealllohmgaaDoor
