/- Walks of functions of this seat, printed by a program over the engine. Conditions: as each theorem says. -/
import Derived.Test.YtpmkdhdcejcpfaaS1
namespace Go.Proofs.Ytpmkdhdcejcpfaa
open Go.Eng Go.RowKit
set_option linter.unusedSimpArgs false
set_option linter.unusedVariables false
theorem hb10 : HasBody Try.prog 10 := fun _ _ => by kernel_rfl
noncomputable def K10_0 : List Item := adv 13 [] (bodyOf Try.f10)
noncomputable def K10_1 : List Item := adv 11 [false] K10_0
noncomputable def K10_2 : List Item := adv 5 [] K10_1
noncomputable def K10_3 : List Item := adv 10 [true] K10_2
noncomputable def K10_4 : List Item := adv 5 [false] (rRest K10_3)
noncomputable def K10_5 : List Item := adv 5 [true] (rRest K10_3)
noncomputable def K10_6 : List Item := adv 6 [false] K10_2
noncomputable def K10_7 : List Item := adv 5 [true] K10_0
set_option maxRecDepth 20000 in
set_option maxHeartbeats 20000000 in
theorem equal_any (la : Option Addr) (len cap : Nat) (l : List Int) (ma : Option Addr) (mn mc : Nat) (ml : List Int) (w : World) (hI : Ints w la len l) (hJ : Ints w ma mn ml) (hlen : len ≤ 9223372036854775807) : Ret Try.prog 10 #[.slice la len cap, .slice ma mn mc] w (fun v w' => v = .bool (l == ml) ∧ Sep w [] w') := by
  have S0 := Sep.refl w
  refine Ret.named fun R hR => ?_
  refine Ret.of_J (N := 26) [(0, .slice la len cap), (1, .slice ma mn mc)] Try.func10 rfl rfl (Nat.le_of_ble_eq_true (by kernel_rfl)) (by kernel_rfl) ?_
  have hl2 := hI.len_eq
  have hm2 := hJ.len_eq
  refine J.run 13 K10_0 [(10, .bool ((len : Int) != (mn : Int))), (0, .slice la len cap), (1, .slice ma mn mc)] w (by kernel_rfl) ?_
  by_cases fk1 : (len : Int) = (mn : Int)
  · skip
    refine J.head (.bool false) (congrArg Value.bool (bne_eq_false_iff_eq.2 fk1)) ?_
    refine J.run 11 K10_1 [(13, .int .i64 0), (12, .int .i64 (len : Int)), (0, .slice la len cap), (1, .slice ma mn mc)] w (by kernel_rfl) ?_
    have L10_1 : ∀ (mm_ : Nat) (i : Int) (w1 : World), (0 ≤ i) → (i ≤ (len : Int)) → (∀ j, j < (i).toNat → l.getD j 0 = ml.getD j 0) → Sep w [] w1 → ((len : Int) - i).toNat = mm_ → J Try.prog 10 26 R K10_1 [(13, .int .i64 i), (12, .int .i64 (len : Int)), (0, .slice la len cap), (1, .slice ma mn mc)] w1 := by
      intro mm1
      induction mm1 using Nat.strongRecOn with
      | _ mm1 ih1 =>
      intro i w1 h0 h1 hq S1 hm1
      refine J.run 5 K10_2 [(14, .bool (decide (i < (len : Int)))), (13, .int .i64 i), (12, .int .i64 (len : Int)), (0, .slice la len cap), (1, .slice ma mn mc)] w1 (by kernel_rfl) ?_
      by_cases fk2 : i < (len : Int)
      · skip
        refine J.head (.bool true) (congrArg Value.bool (decide_eq_true fk2)) ?_
        refine J.run 10 K10_3 [(5, .int .i64 i), (13, .int .i64 i), (12, .int .i64 (len : Int)), (0, .slice la len cap), (1, .slice ma mn mc)] w1 (by kernel_rfl) ?_
        obtain ⟨p1, hp1, hc1⟩ := hI.at 0 (i).toNat (by omega)
        obtain ⟨p2, hp2, hc2⟩ := hJ.at 0 (i).toNat (by omega)
        refine J.drawStill S1 9 Try.mixed (by kernel_rfl) (by kernel_rfl) (by kernel_rfl) ?_
        intro w2 S2
        refine SL.ok (by decide) (OK.run 16 (.slice la len cap) (by kernel_rfl)) ?_
        refine SL.ok (by decide) (OK.run 17 (.int .i64 i) (by kernel_rfl)) ?_
        refine SL.ok (by decide) (OK.index 18 28 1 la p1 len (i).toNat i (p1.add (i).toNat) (by kernel_rfl) (by kernel_rfl) hp1 (by omega) (by omega) (by rw [Nat.mul_one])) ?_
        refine SL.ok (by decide) (OK.ldCell 19 3 (p1.add (i).toNat) (.int .i64 (l.getD (i).toNat 0)) (by kernel_rfl) (by kernel_rfl) (S2.cell hc1)) ?_
        refine SL.ok (by decide) (OK.run 20 (.slice ma mn mc) (by kernel_rfl)) ?_
        refine SL.ok (by decide) (OK.run 21 (.int .i64 i) (by kernel_rfl)) ?_
        refine SL.ok (by decide) (OK.index 22 28 1 ma p2 mn (i).toNat i (p2.add (i).toNat) (by kernel_rfl) (by kernel_rfl) hp2 (by omega) (by omega) (by rw [Nat.mul_one])) ?_
        refine SL.ok (by decide) (OK.ldCell 23 3 (p2.add (i).toNat) (.int .i64 (ml.getD (i).toNat 0)) (by kernel_rfl) (by kernel_rfl) (S2.cell hc2)) ?_
        refine SL.ok (by decide) (OK.run 24 (.bool ((l.getD (i).toNat 0) != (ml.getD (i).toNat 0))) (by kernel_rfl)) ?_
        refine SL.done ?_
        refine TL.done (by kernel_rfl) ?_
        refine J.run 0 (rRest K10_3) [(24, .bool ((l.getD (i).toNat 0) != (ml.getD (i).toNat 0))), (13, .int .i64 i), (12, .int .i64 (len : Int)), (0, .slice la len cap), (1, .slice ma mn mc)] w2 (by kernel_rfl) ?_
        by_cases fk3 : (l.getD (i).toNat 0) = (ml.getD (i).toNat 0)
        · skip
          refine J.head (.bool false) (congrArg Value.bool (bne_eq_false_iff_eq.2 fk3)) ?_
          refine J.run 5 K10_4 [(25, .int .i64 (IntKind.wrap .i64 (i + 1))), (12, .int .i64 (len : Int)), (0, .slice la len cap), (1, .slice ma mn mc)] w2 (by kernel_rfl) ?_
          refine J.head (.int .i64 (i + 1)) (congrArg (Value.int .i64) (IntWalk.i64_in _ (by omega))) ?_
          refine J.run 3 K10_1 [(13, .int .i64 (i + 1)), (12, .int .i64 (len : Int)), (0, .slice la len cap), (1, .slice ma mn mc)] w2 (by kernel_rfl) ?_
          refine J.run 0 K10_1 [(13, .int .i64 (i + 1)), (12, .int .i64 (len : Int)), (0, .slice la len cap), (1, .slice ma mn mc)] w2 (by kernel_rfl) ?_
          exact ih1 _ (show ((len : Int) - (i + 1)).toNat < mm1 from by omega) (i + 1) w2 (by omega) (by omega) (by intro j hj; by_cases e : j = i.toNat; (subst e; exact fk3); exact hq j (by omega)) S2 rfl
        · skip
          refine J.head (.bool true) (congrArg Value.bool (bne_iff_ne.2 fk3)) ?_
          refine J.run 5 K10_5 [(4, .bool false)] w2 (by kernel_rfl) ?_
          refine J.ret Try.f10 [.bool false] Try.func10 ⟨by kernel_rfl, trivial⟩ ?_
          refine hR _ _ ?_
          exact ⟨congrArg Value.bool (beq_at (i := i.toNat) fk3).symm, S2.nil⟩
      · skip
        refine J.head (.bool false) (congrArg Value.bool (decide_eq_false fk2)) ?_
        refine J.run 6 K10_6 [(4, .bool true)] w1 (by kernel_rfl) ?_
        refine J.ret Try.f10 [.bool true] Try.func10 ⟨by kernel_rfl, trivial⟩ ?_
        refine hR _ _ ?_
        exact ⟨congrArg Value.bool (beq_all (by omega) fun j hj => hq j (by omega)).symm, S1.nil⟩
    exact L10_1 _ 0 w (by omega) (by omega) (by intro j hj; simp at hj) S0 rfl
  · skip
    refine J.head (.bool true) (congrArg Value.bool (bne_iff_ne.2 fk1)) ?_
    refine J.run 5 K10_7 [(4, .bool false)] w (by kernel_rfl) ?_
    refine J.ret Try.f10 [.bool false] Try.func10 ⟨by kernel_rfl, trivial⟩ ?_
    refine hR _ _ ?_
    exact ⟨congrArg Value.bool (beq_no hl2 hm2 (by omega)).symm, S0.nil⟩

theorem hb7 : HasBody Try.prog 7 := fun _ _ => by kernel_rfl
noncomputable def K7_0 : List Item := adv 7 [] (bodyOf Try.f7)
noncomputable def K7_1 : List Item := adv 3 [] (popK (popK K7_0))
noncomputable def K7_2 : List Item := adv 4 [] (popK (popK (popK K7_1)))
noncomputable def K7_3 : List Item := adv 1 [] (popK K7_2)
noncomputable def K7_4 : List Item := adv 3 [] (popK K7_3)
noncomputable def K7_5 : List Item := adv 1 [] (popK (popK (popK (popK K7_4))))
noncomputable def K7_6 : List Item := adv 3 [] (popK (popK (popK (popK K7_5))))
set_option maxRecDepth 20000 in
set_option maxHeartbeats 20000000 in
theorem awake_any  (w : World) : Ret Try.prog 7 #[] w (fun v w' => v = .bool true ∧ Sep w [] w') := by
  have S0 := Sep.refl w
  refine Ret.named fun R hR => ?_
  refine Ret.of_J (N := 17) [] Try.func7 rfl rfl (Nat.le_of_ble_eq_true (by kernel_rfl)) (by kernel_rfl) ?_
  refine J.run 7 K7_0 [(3, .agg #[.string ⟨#[115]⟩, .int .i64 4, .int .i64 8, .bool false, .bool false, .int .i64 1, .int .i64 0, .int .i64 1, .int .i64 0, .int .i64 255])] w (by kernel_rfl) ?_
  refine J.new S0 1 [.string ByteArray.empty, .int .i64 0, .int .i64 0, .bool false, .bool false, .int .i64 0, .int .i64 0, .int .i64 0, .int .i64 0, .int .i64 0] 23 (by kernel_rfl) ?_
  intro b1 w1 S1
  refine J.stBox S1 0 23 0 (.agg #[.string ⟨#[115]⟩, .int .i64 4, .int .i64 8, .bool false, .bool false, .int .i64 1, .int .i64 0, .int .i64 1, .int .i64 0, .int .i64 255]) [.string ⟨#[115]⟩, .int .i64 4, .int .i64 8, .bool false, .bool false, .int .i64 1, .int .i64 0, .int .i64 1, .int .i64 0, .int .i64 255] [box b1 [.string ⟨#[115]⟩, .int .i64 4, .int .i64 8, .bool false, .bool false, .int .i64 1, .int .i64 0, .int .i64 1, .int .i64 0, .int .i64 255] 23] (by kernel_rfl) rfl (by kernel_rfl) (by kernel_rfl) rfl ?_
  intro w2 S2
  refine J.run 3 K7_1 [(1, .pointer (some ⟨b1, 0, none⟩))] w2 (by kernel_rfl) ?_
  refine J.ok (OK.ldBox S2 0 4 23 0 (.agg #[.string ⟨#[115]⟩, .int .i64 4, .int .i64 8, .bool false, .bool false, .int .i64 1, .int .i64 0, .int .i64 1, .int .i64 0, .int .i64 255]) (by kernel_rfl) rfl (by kernel_rfl)) ?_
  refine J.new S2 2 [.string ByteArray.empty, .int .i64 0, .int .i64 0, .bool false, .bool false, .int .i64 0, .int .i64 0, .int .i64 0, .int .i64 0, .int .i64 0] 23 (by kernel_rfl) ?_
  intro b2 w3 S3
  refine J.stBox S3 0 23 0 (.agg #[.string ⟨#[115]⟩, .int .i64 4, .int .i64 8, .bool false, .bool false, .int .i64 1, .int .i64 0, .int .i64 1, .int .i64 0, .int .i64 255]) [.string ⟨#[115]⟩, .int .i64 4, .int .i64 8, .bool false, .bool false, .int .i64 1, .int .i64 0, .int .i64 1, .int .i64 0, .int .i64 255] [box b2 [.string ⟨#[115]⟩, .int .i64 4, .int .i64 8, .bool false, .bool false, .int .i64 1, .int .i64 0, .int .i64 1, .int .i64 0, .int .i64 255] 23, box b1 [.string ⟨#[115]⟩, .int .i64 4, .int .i64 8, .bool false, .bool false, .int .i64 1, .int .i64 0, .int .i64 1, .int .i64 0, .int .i64 255] 23] (by kernel_rfl) rfl (by kernel_rfl) (by kernel_rfl) rfl ?_
  intro w4 S4
  refine J.run 4 K7_2 [(5, .pointer (some ⟨b2, 3, none⟩)), (2, .pointer (some ⟨b2, 0, none⟩)), (1, .pointer (some ⟨b1, 0, none⟩))] w4 (by kernel_rfl) ?_
  refine J.stBox S4 0 4 3 (.bool true) [.string ⟨#[115]⟩, .int .i64 4, .int .i64 8, .bool true, .bool false, .int .i64 1, .int .i64 0, .int .i64 1, .int .i64 0, .int .i64 255] [box b2 [.string ⟨#[115]⟩, .int .i64 4, .int .i64 8, .bool true, .bool false, .int .i64 1, .int .i64 0, .int .i64 1, .int .i64 0, .int .i64 255] 23, box b1 [.string ⟨#[115]⟩, .int .i64 4, .int .i64 8, .bool false, .bool false, .int .i64 1, .int .i64 0, .int .i64 1, .int .i64 0, .int .i64 255] 23] (by kernel_rfl) rfl (by kernel_rfl) (by kernel_rfl) rfl ?_
  intro w5 S5
  refine J.run 1 K7_3 [(6, .pointer (some ⟨b2, 1, none⟩)), (2, .pointer (some ⟨b2, 0, none⟩)), (1, .pointer (some ⟨b1, 0, none⟩))] w5 (by kernel_rfl) ?_
  refine J.stBox S5 0 3 1 (.int .i64 3) [.string ⟨#[115]⟩, .int .i64 3, .int .i64 8, .bool true, .bool false, .int .i64 1, .int .i64 0, .int .i64 1, .int .i64 0, .int .i64 255] [box b2 [.string ⟨#[115]⟩, .int .i64 3, .int .i64 8, .bool true, .bool false, .int .i64 1, .int .i64 0, .int .i64 1, .int .i64 0, .int .i64 255] 23, box b1 [.string ⟨#[115]⟩, .int .i64 4, .int .i64 8, .bool false, .bool false, .int .i64 1, .int .i64 0, .int .i64 1, .int .i64 0, .int .i64 255] 23] (by kernel_rfl) rfl (by kernel_rfl) (by kernel_rfl) rfl ?_
  intro w6 S6
  refine J.run 3 K7_4 [(2, .pointer (some ⟨b2, 0, none⟩)), (1, .pointer (some ⟨b1, 0, none⟩))] w6 (by kernel_rfl) ?_
  refine J.ok (OK.ldBox S6 1 7 23 0 (.agg #[.string ⟨#[115]⟩, .int .i64 4, .int .i64 8, .bool false, .bool false, .int .i64 1, .int .i64 0, .int .i64 1, .int .i64 0, .int .i64 255]) (by kernel_rfl) rfl (by kernel_rfl)) ?_
  refine J.callF 8 11 #[.agg #[.string ⟨#[115]⟩, .int .i64 4, .int .i64 8, .bool false, .bool false, .int .i64 1, .int .i64 0, .int .i64 1, .int .i64 0, .int .i64 255]] hb11 (by kernel_rfl) (bits_any (⟨#[115]⟩ : ByteArray) 4 8 false false 1 0 1 0 255 _ (by first | omega | decide)) ?_
  rintro _ w7 ⟨ra1, rc1, rfl, T1⟩
  have S7 : Sep w [rowOf encI ra1 rc1 3 1 (bitsF (⟨#[115]⟩ : ByteArray) 4 8 false false 1 0 1 0 255), box b2 [.string ⟨#[115]⟩, .int .i64 3, .int .i64 8, .bool true, .bool false, .int .i64 1, .int .i64 0, .int .i64 1, .int .i64 0, .int .i64 255] 23, box b1 [.string ⟨#[115]⟩, .int .i64 4, .int .i64 8, .bool false, .bool false, .int .i64 1, .int .i64 0, .int .i64 1, .int .i64 0, .int .i64 255] 23] w7 := S6.trans T1
  clear T1 S6
  refine J.newSlice S7 9 8 [.int .i64 4, .int .i64 5, .int .i64 6, .int .i64 7, .int .i64 8, .int .i64 9, .int .i64 10, .int .i64 11] 3 (by kernel_rfl) ?_
  intro b3 w8 S8
  have := rowOf_len (S8.nth 1 rfl)
  refine J.callF 10 10 #[.slice ra1 ((bitsF (⟨#[115]⟩ : ByteArray) 4 8 false false 1 0 1 0 255).length) rc1, .slice (some ⟨b3, 0, none⟩) 8 8] hb10 (by kernel_rfl) (equal_any ra1 ((bitsF (⟨#[115]⟩ : ByteArray) 4 8 false false 1 0 1 0 255).length) rc1 (bitsF (⟨#[115]⟩ : ByteArray) 4 8 false false 1 0 1 0 255) (some ⟨b3, 0, none⟩) 8 8 ([4, 5, 6, 7, 8, 9, 10, 11]) _ ((row1_ones (S8.nth 1 rfl) ((bitsF (⟨#[115]⟩ : ByteArray) 4 8 false false 1 0 1 0 255).length) (by first | rfl | omega | simp))) ((box_ints [4, 5, 6, 7, 8, 9, 10, 11] (S8.nth 0 rfl) rfl 8 rfl)) (by first | omega | (simp; omega))) ?_
  rintro _ w9 ⟨rfl, T2⟩
  have S9 : Sep w [box b3 [.int .i64 4, .int .i64 5, .int .i64 6, .int .i64 7, .int .i64 8, .int .i64 9, .int .i64 10, .int .i64 11] 3, rowOf encI ra1 rc1 3 1 (bitsF (⟨#[115]⟩ : ByteArray) 4 8 false false 1 0 1 0 255), box b2 [.string ⟨#[115]⟩, .int .i64 3, .int .i64 8, .bool true, .bool false, .int .i64 1, .int .i64 0, .int .i64 1, .int .i64 0, .int .i64 255] 23, box b1 [.string ⟨#[115]⟩, .int .i64 4, .int .i64 8, .bool false, .bool false, .int .i64 1, .int .i64 0, .int .i64 1, .int .i64 0, .int .i64 255] 23] w9 := S8.trans T2
  clear T2 S8
  refine J.run 1 K7_5 [(11, .bool ((bitsF (⟨#[115]⟩ : ByteArray) 4 8 false false 1 0 1 0 255) == ([4, 5, 6, 7, 8, 9, 10, 11]))), (2, .pointer (some ⟨b2, 0, none⟩))] w9 (by kernel_rfl) ?_
  have fk2 : ((bitsF (⟨#[115]⟩ : ByteArray) 4 8 false false 1 0 1 0 255) == ([4, 5, 6, 7, 8, 9, 10, 11])) = true := by decide +kernel
  refine J.head (.bool true) (congrArg Value.bool fk2) ?_
  refine J.ok (OK.ldBox S9 2 12 23 0 (.agg #[.string ⟨#[115]⟩, .int .i64 3, .int .i64 8, .bool true, .bool false, .int .i64 1, .int .i64 0, .int .i64 1, .int .i64 0, .int .i64 255]) (by kernel_rfl) rfl (by kernel_rfl)) ?_
  refine J.callF 13 11 #[.agg #[.string ⟨#[115]⟩, .int .i64 3, .int .i64 8, .bool true, .bool false, .int .i64 1, .int .i64 0, .int .i64 1, .int .i64 0, .int .i64 255]] hb11 (by kernel_rfl) (bits_any (⟨#[115]⟩ : ByteArray) 3 8 true false 1 0 1 0 255 _ (by first | omega | decide)) ?_
  rintro _ w10 ⟨ra2, rc2, rfl, T3⟩
  have S10 : Sep w [rowOf encI ra2 rc2 3 1 (bitsF (⟨#[115]⟩ : ByteArray) 3 8 true false 1 0 1 0 255), box b3 [.int .i64 4, .int .i64 5, .int .i64 6, .int .i64 7, .int .i64 8, .int .i64 9, .int .i64 10, .int .i64 11] 3, rowOf encI ra1 rc1 3 1 (bitsF (⟨#[115]⟩ : ByteArray) 4 8 false false 1 0 1 0 255), box b2 [.string ⟨#[115]⟩, .int .i64 3, .int .i64 8, .bool true, .bool false, .int .i64 1, .int .i64 0, .int .i64 1, .int .i64 0, .int .i64 255] 23, box b1 [.string ⟨#[115]⟩, .int .i64 4, .int .i64 8, .bool false, .bool false, .int .i64 1, .int .i64 0, .int .i64 1, .int .i64 0, .int .i64 255] 23] w10 := S9.trans T3
  clear T3 S9
  refine J.newSlice S10 14 8 [.int .i64 12, .int .i64 13, .int .i64 14, .int .i64 15, .int .i64 0, .int .i64 1, .int .i64 2, .int .i64 3] 3 (by kernel_rfl) ?_
  intro b4 w11 S11
  have := rowOf_len (S11.nth 1 rfl)
  refine J.callF 15 10 #[.slice ra2 ((bitsF (⟨#[115]⟩ : ByteArray) 3 8 true false 1 0 1 0 255).length) rc2, .slice (some ⟨b4, 0, none⟩) 8 8] hb10 (by kernel_rfl) (equal_any ra2 ((bitsF (⟨#[115]⟩ : ByteArray) 3 8 true false 1 0 1 0 255).length) rc2 (bitsF (⟨#[115]⟩ : ByteArray) 3 8 true false 1 0 1 0 255) (some ⟨b4, 0, none⟩) 8 8 ([12, 13, 14, 15, 0, 1, 2, 3]) _ ((row1_ones (S11.nth 1 rfl) ((bitsF (⟨#[115]⟩ : ByteArray) 3 8 true false 1 0 1 0 255).length) (by first | rfl | omega | simp))) ((box_ints [12, 13, 14, 15, 0, 1, 2, 3] (S11.nth 0 rfl) rfl 8 rfl)) (by first | omega | (simp; omega))) ?_
  rintro _ w12 ⟨rfl, T4⟩
  have S12 : Sep w [box b4 [.int .i64 12, .int .i64 13, .int .i64 14, .int .i64 15, .int .i64 0, .int .i64 1, .int .i64 2, .int .i64 3] 3, rowOf encI ra2 rc2 3 1 (bitsF (⟨#[115]⟩ : ByteArray) 3 8 true false 1 0 1 0 255), box b3 [.int .i64 4, .int .i64 5, .int .i64 6, .int .i64 7, .int .i64 8, .int .i64 9, .int .i64 10, .int .i64 11] 3, rowOf encI ra1 rc1 3 1 (bitsF (⟨#[115]⟩ : ByteArray) 4 8 false false 1 0 1 0 255), box b2 [.string ⟨#[115]⟩, .int .i64 3, .int .i64 8, .bool true, .bool false, .int .i64 1, .int .i64 0, .int .i64 1, .int .i64 0, .int .i64 255] 23, box b1 [.string ⟨#[115]⟩, .int .i64 4, .int .i64 8, .bool false, .bool false, .int .i64 1, .int .i64 0, .int .i64 1, .int .i64 0, .int .i64 255] 23] w12 := S11.trans T4
  clear T4 S11
  refine J.run 3 K7_6 [(0, .bool ((bitsF (⟨#[115]⟩ : ByteArray) 3 8 true false 1 0 1 0 255) == ([12, 13, 14, 15, 0, 1, 2, 3])))] w12 (by kernel_rfl) ?_
  refine J.ret Try.f7 [.bool ((bitsF (⟨#[115]⟩ : ByteArray) 3 8 true false 1 0 1 0 255) == ([12, 13, 14, 15, 0, 1, 2, 3]))] Try.func7 ⟨by kernel_rfl, trivial⟩ ?_
  refine hR _ _ ?_
  exact ⟨congrArg Value.bool (by decide +kernel), S12.nil⟩

theorem hb3 : HasBody Try.prog 3 := fun _ _ => by kernel_rfl
noncomputable def K3_0 : List Item := adv 2 [] (bodyOf Try.f3)
noncomputable def K3_1 : List Item := adv 5 [] (popK K3_0)
noncomputable def K3_2 : List Item := adv 8 [false] (popK K3_1)
noncomputable def K3_3 : List Item := adv 3 [] (popK K3_2)
noncomputable def K3_4 : List Item := adv 5 [true] K3_3
noncomputable def K3_5 : List Item := adv 4 [false] K3_3
noncomputable def K3_6 : List Item := adv 8 [] (popK (popK K3_5))
noncomputable def K3_7 : List Item := adv 7 [] (popK (popK K3_6))
noncomputable def K3_8 : List Item := adv 8 [] (popK (popK K3_5))
noncomputable def K3_9 : List Item := adv 7 [] (popK (popK K3_8))
set_option maxRecDepth 20000 in
set_option maxHeartbeats 20000000 in
theorem lawbits_any (nm : ByteArray) (st ln : Int) (mo sg : Bool) (num off den low high : Int) (w : World) (hnm : nm.size ≤ 9223372036854775807) : Ret Try.prog 3 #[.agg #[.string nm, .int .i64 st, .int .i64 ln, .bool mo, .bool sg, .int .i64 num, .int .i64 off, .int .i64 den, .int .i64 low, .int .i64 high]] w (fun v w' => v = .bool true ∧ Sep w [] w') := by
  have S0 := Sep.refl w
  refine Ret.named fun R hR => ?_
  refine Ret.of_J (N := 38) [(0, .agg #[.string nm, .int .i64 st, .int .i64 ln, .bool mo, .bool sg, .int .i64 num, .int .i64 off, .int .i64 den, .int .i64 low, .int .i64 high])] Try.func3 rfl rfl (Nat.le_of_ble_eq_true (by kernel_rfl)) (by kernel_rfl) ?_
  refine J.run 2 K3_0 [(0, .agg #[.string nm, .int .i64 st, .int .i64 ln, .bool mo, .bool sg, .int .i64 num, .int .i64 off, .int .i64 den, .int .i64 low, .int .i64 high])] w (by kernel_rfl) ?_
  refine J.new S0 1 [.string nm, .int .i64 st, .int .i64 ln, .bool mo, .bool sg, .int .i64 num, .int .i64 off, .int .i64 den, .int .i64 low, .int .i64 high] 23 (by kernel_rfl) ?_
  intro b1 w1 S1
  refine J.run 5 K3_1 [(1, .pointer (some ⟨b1, 0, none⟩))] w1 (by kernel_rfl) ?_
  refine J.callF 7 7 #[] hb7 (by kernel_rfl) (awake_any  _) ?_
  rintro _ w2 ⟨rfl, T1⟩
  have S2 : Sep w [box b1 [.string nm, .int .i64 st, .int .i64 ln, .bool mo, .bool sg, .int .i64 num, .int .i64 off, .int .i64 den, .int .i64 low, .int .i64 high] 23] w2 := S1.trans T1
  clear T1 S1
  refine J.run 8 K3_2 [(9, .pointer (some ⟨b1, 0, none⟩)), (1, .pointer (some ⟨b1, 0, none⟩))] w2 (by kernel_rfl) ?_
  refine J.ok (OK.ldBox S2 0 10 9 0 (.string nm) (by kernel_rfl) rfl (by kernel_rfl)) ?_
  refine J.run 3 K3_3 [(12, .bool (decide ((nm.size : Int) > 60))), (1, .pointer (some ⟨b1, 0, none⟩))] w2 (by kernel_rfl) ?_
  by_cases fk1 : (nm.size : Int) > 60
  · skip
    refine J.head (.bool true) (congrArg Value.bool (decide_eq_true fk1)) ?_
    refine J.run 5 K3_4 [(2, .bool true)] w2 (by kernel_rfl) ?_
    refine J.ret Try.f3 [.bool true] Try.func3 ⟨by kernel_rfl, trivial⟩ ?_
    refine hR _ _ ?_
    exact ⟨rfl, S2.nil⟩
  · skip
    refine J.head (.bool false) (congrArg Value.bool (decide_eq_false fk1)) ?_
    refine J.run 4 K3_5 [(1, .pointer (some ⟨b1, 0, none⟩))] w2 (by kernel_rfl) ?_
    refine J.ok (OK.ldBox S2 0 14 23 0 (.agg #[.string nm, .int .i64 st, .int .i64 ln, .bool mo, .bool sg, .int .i64 num, .int .i64 off, .int .i64 den, .int .i64 low, .int .i64 high]) (by kernel_rfl) rfl (by kernel_rfl)) ?_
    rcases Bool.eq_false_or_eq_true (sigB nm st ln mo sg num off den low high) with fk2 | fk2
    · skip
      refine J.callF 15 8 #[.agg #[.string nm, .int .i64 st, .int .i64 ln, .bool mo, .bool sg, .int .i64 num, .int .i64 off, .int .i64 den, .int .i64 low, .int .i64 high]] hb8 (by kernel_rfl) (limits_any nm st ln mo sg num off den low high _ (by omega)) ?_
      rintro _ w3 ⟨rfl, T2⟩
      have S3 : Sep w [box b1 [.string nm, .int .i64 st, .int .i64 ln, .bool mo, .bool sg, .int .i64 num, .int .i64 off, .int .i64 den, .int .i64 low, .int .i64 high] 23] w3 := S2.trans T2
      clear T2 S2
      refine J.head (.tuple #[.int .i64 (lowF ln sg), .int .i64 (highF ln sg)]) (by first | (simp only [limV, fk2, reduceCtorEq, ↓reduceIte]; done) | simp [limV, fk2]) ?_
      refine J.run 8 K3_6 [(4, .int .i64 (highF ln sg)), (3, .int .i64 (lowF ln sg)), (1, .pointer (some ⟨b1, 0, none⟩))] w3 (by kernel_rfl) ?_
      refine J.ok (OK.ldBox S3 0 19 23 0 (.agg #[.string nm, .int .i64 st, .int .i64 ln, .bool mo, .bool sg, .int .i64 num, .int .i64 off, .int .i64 den, .int .i64 low, .int .i64 high]) (by kernel_rfl) rfl (by kernel_rfl)) ?_
      refine J.callF 20 9 #[.agg #[.string nm, .int .i64 st, .int .i64 ln, .bool mo, .bool sg, .int .i64 num, .int .i64 off, .int .i64 den, .int .i64 low, .int .i64 high]] hb9 (by kernel_rfl) (rlimits_any nm st ln mo sg num off den low high _ (by omega)) ?_
      rintro _ w4 ⟨rfl, T3⟩
      have S4 : Sep w [box b1 [.string nm, .int .i64 st, .int .i64 ln, .bool mo, .bool sg, .int .i64 num, .int .i64 off, .int .i64 den, .int .i64 low, .int .i64 high] 23] w4 := S3.trans T3
      clear T3 S3
      refine J.head (.tuple #[.int .i64 (lowF ln sg), .int .i64 (highF ln sg)]) (by first | (simp only [limV, fk2, reduceCtorEq, ↓reduceIte]; done) | simp [limV, fk2]) ?_
      refine J.run 7 K3_7 [(6, .int .i64 (highF ln sg)), (5, .int .i64 (lowF ln sg)), (4, .int .i64 (highF ln sg)), (3, .int .i64 (lowF ln sg)), (1, .pointer (some ⟨b1, 0, none⟩))] w4 (by kernel_rfl) ?_
      have W1 : ∀ (ad1 : Option Addr) (cd1 : Nat) (ad3 : Option Addr) (cd3 : Nat) (w5 : World), Sep w [rowOf encI ad3 cd3 3 1 (bitsF nm st ln mo sg num off den low high), rowOf encI ad1 cd1 3 1 (bitsF nm st ln mo sg num off den low high), box b1 [.string nm, .int .i64 st, .int .i64 ln, .bool mo, .bool sg, .int .i64 num, .int .i64 off, .int .i64 den, .int .i64 low, .int .i64 high] 23] w5 → WA Try.prog 3 38 R K3_7 0 #[true, true, true, true, true, true, true, true, true, true, true, true, true, true, true, true] [(1, .pointer (some ⟨b1, 0, none⟩)), (2, .bool true), (3, .int .i64 (lowF ln sg)), (4, .int .i64 (highF ln sg)), (5, .int .i64 (lowF ln sg)), (6, .int .i64 (highF ln sg)), (23, .agg #[.string nm, .int .i64 st, .int .i64 ln, .bool mo, .bool sg, .int .i64 num, .int .i64 off, .int .i64 den, .int .i64 low, .int .i64 high]), (24, .slice ad1 ((bitsF nm st ln mo sg num off den low high).length) cd1), (25, .agg #[.string nm, .int .i64 st, .int .i64 ln, .bool mo, .bool sg, .int .i64 num, .int .i64 off, .int .i64 den, .int .i64 low, .int .i64 high]), (26, .slice ad3 ((bitsF nm st ln mo sg num off den low high).length) cd3), (27, .bool true), (28, .bool true), (29, .int .i64 (lowF ln sg)), (30, .int .i64 (lowF ln sg)), (31, .bool true), (32, .bool true), (33, .bool true), (34, .int .i64 (highF ln sg)), (35, .int .i64 (highF ln sg)), (36, .bool true), (37, .bool true)] w5 := by
        intro ad1 cd1 ad3 cd3 w5 S5
        refine WA.done (by kernel_rfl) ?_
        refine J.run 0 (rRest K3_7) [(2, .bool true)] w5 (by kernel_rfl) ?_
        refine J.ret Try.f3 [.bool true] Try.func3 ⟨by kernel_rfl, trivial⟩ ?_
        refine hR _ _ ?_
        exact ⟨rfl, S5.nil⟩
      have W2 : ∀ (ad1 : Option Addr) (cd1 : Nat) (ad3 : Option Addr) (cd3 : Nat) (w6 : World), Sep w [rowOf encI ad3 cd3 3 1 (bitsF nm st ln mo sg num off den low high), rowOf encI ad1 cd1 3 1 (bitsF nm st ln mo sg num off den low high), box b1 [.string nm, .int .i64 st, .int .i64 ln, .bool mo, .bool sg, .int .i64 num, .int .i64 off, .int .i64 den, .int .i64 low, .int .i64 high] 23] w6 → WA Try.prog 3 38 R K3_7 12 #[true, true, true, true, false, false, false, false, false, false, false, false, false, false, false, false] [(1, .pointer (some ⟨b1, 0, none⟩)), (3, .int .i64 (lowF ln sg)), (4, .int .i64 (highF ln sg)), (5, .int .i64 (lowF ln sg)), (6, .int .i64 (highF ln sg)), (23, .agg #[.string nm, .int .i64 st, .int .i64 ln, .bool mo, .bool sg, .int .i64 num, .int .i64 off, .int .i64 den, .int .i64 low, .int .i64 high]), (24, .slice ad1 ((bitsF nm st ln mo sg num off den low high).length) cd1), (25, .agg #[.string nm, .int .i64 st, .int .i64 ln, .bool mo, .bool sg, .int .i64 num, .int .i64 off, .int .i64 den, .int .i64 low, .int .i64 high]), (26, .slice ad3 ((bitsF nm st ln mo sg num off den low high).length) cd3)] w6 := by
        intro ad1 cd1 ad3 cd3 w6 S6
        refine WA.all [4] (by kernel_rfl) rfl ⟨?_, trivial⟩
        · skip
          refine WO.set #[true, true, true, true, true, false, false, false, false, false, false, false, false, false, false, false] (by kernel_rfl) ?_
          have := rowOf_len (S6.nth 1 rfl)
          have := rowOf_len (S6.nth 0 rfl)
          refine WO.callF 27 10 #[.slice ad1 ((bitsF nm st ln mo sg num off den low high).length) cd1, .slice ad3 ((bitsF nm st ln mo sg num off den low high).length) cd3] hb10 (by kernel_rfl) (equal_any ad1 ((bitsF nm st ln mo sg num off den low high).length) cd1 (bitsF nm st ln mo sg num off den low high) ad3 ((bitsF nm st ln mo sg num off den low high).length) cd3 (bitsF nm st ln mo sg num off den low high) _ ((row1_ones (S6.nth 1 rfl) ((bitsF nm st ln mo sg num off den low high).length) (by first | rfl | omega | simp))) ((row1_ones (S6.nth 0 rfl) ((bitsF nm st ln mo sg num off den low high).length) (by first | rfl | omega | simp))) (by first | omega | (simp; omega))) ?_
          rintro _ w7 ⟨rfl, T4⟩
          have S7 : Sep w [rowOf encI ad3 cd3 3 1 (bitsF nm st ln mo sg num off den low high), rowOf encI ad1 cd1 3 1 (bitsF nm st ln mo sg num off den low high), box b1 [.string nm, .int .i64 st, .int .i64 ln, .bool mo, .bool sg, .int .i64 num, .int .i64 off, .int .i64 den, .int .i64 low, .int .i64 high] 23] w7 := S6.trans T4
          clear T4 S6
          refine WA.head (.bool true) (congrArg Value.bool (beq_self_eq_true _)) ?_
          refine WA.take 5 28 (.bool true) #[true, true, true, true, true, true, false, false, false, false, false, false, false, false, false, false] (by kernel_rfl) (by kernel_rfl) (by kernel_rfl) (fun _ => by kernel_rfl) (by kernel_rfl) ?_
          refine WA.take 6 29 (.int .i64 (lowF ln sg)) #[true, true, true, true, true, true, true, false, false, false, false, false, false, false, false, false] (by kernel_rfl) (by kernel_rfl) (by kernel_rfl) (fun _ => by kernel_rfl) (by kernel_rfl) ?_
          refine WA.take 7 30 (.int .i64 (lowF ln sg)) #[true, true, true, true, true, true, true, true, false, false, false, false, false, false, false, false] (by kernel_rfl) (by kernel_rfl) (by kernel_rfl) (fun _ => by kernel_rfl) (by kernel_rfl) ?_
          refine WA.take 8 31 (.bool ((lowF ln sg) == (lowF ln sg))) #[true, true, true, true, true, true, true, true, true, false, false, false, false, false, false, false] (by kernel_rfl) (by kernel_rfl) (by kernel_rfl) (fun _ => by kernel_rfl) (by kernel_rfl) ?_
          refine WA.head (.bool true) (congrArg Value.bool (by simp)) ?_
          refine WA.take 9 32 (.bool true) #[true, true, true, true, true, true, true, true, true, true, false, false, false, false, false, false] (by kernel_rfl) (by kernel_rfl) (by kernel_rfl) (fun _ => by kernel_rfl) (by kernel_rfl) ?_
          refine WA.take 10 33 (.bool true) #[true, true, true, true, true, true, true, true, true, true, true, false, false, false, false, false] (by kernel_rfl) (by kernel_rfl) (by kernel_rfl) (fun _ => by kernel_rfl) (by kernel_rfl) ?_
          refine WA.take 11 34 (.int .i64 (highF ln sg)) #[true, true, true, true, true, true, true, true, true, true, true, true, false, false, false, false] (by kernel_rfl) (by kernel_rfl) (by kernel_rfl) (fun _ => by kernel_rfl) (by kernel_rfl) ?_
          refine WA.take 12 35 (.int .i64 (highF ln sg)) #[true, true, true, true, true, true, true, true, true, true, true, true, true, false, false, false] (by kernel_rfl) (by kernel_rfl) (by kernel_rfl) (fun _ => by kernel_rfl) (by kernel_rfl) ?_
          refine WA.take 13 36 (.bool ((highF ln sg) == (highF ln sg))) #[true, true, true, true, true, true, true, true, true, true, true, true, true, true, false, false] (by kernel_rfl) (by kernel_rfl) (by kernel_rfl) (fun _ => by kernel_rfl) (by kernel_rfl) ?_
          refine WA.head (.bool true) (congrArg Value.bool (by simp)) ?_
          refine WA.take 14 37 (.bool true) #[true, true, true, true, true, true, true, true, true, true, true, true, true, true, true, false] (by kernel_rfl) (by kernel_rfl) (by kernel_rfl) (fun _ => by kernel_rfl) (by kernel_rfl) ?_
          refine WA.take 15 2 (.bool true) #[true, true, true, true, true, true, true, true, true, true, true, true, true, true, true, true] (by kernel_rfl) (by kernel_rfl) (by kernel_rfl) (fun _ => by kernel_rfl) (by kernel_rfl) ?_
          refine WA.weaken (env' := [(1, .pointer (some ⟨b1, 0, none⟩)), (2, .bool true), (3, .int .i64 (lowF ln sg)), (4, .int .i64 (highF ln sg)), (5, .int .i64 (lowF ln sg)), (6, .int .i64 (highF ln sg)), (23, .agg #[.string nm, .int .i64 st, .int .i64 ln, .bool mo, .bool sg, .int .i64 num, .int .i64 off, .int .i64 den, .int .i64 low, .int .i64 high]), (24, .slice ad1 ((bitsF nm st ln mo sg num off den low high).length) cd1), (25, .agg #[.string nm, .int .i64 st, .int .i64 ln, .bool mo, .bool sg, .int .i64 num, .int .i64 off, .int .i64 den, .int .i64 low, .int .i64 high]), (26, .slice ad3 ((bitsF nm st ln mo sg num off den low high).length) cd3), (27, .bool true), (28, .bool true), (29, .int .i64 (lowF ln sg)), (30, .int .i64 (lowF ln sg)), (31, .bool true), (32, .bool true), (33, .bool true), (34, .int .i64 (highF ln sg)), (35, .int .i64 (highF ln sg)), (36, .bool true), (37, .bool true)]) (by kernel_rfl) ?_
          exact W1 ad1 cd1 ad3 cd3 w7 S7
      have W3 : ∀ (ad1 : Option Addr) (cd1 : Nat) (w8 : World), Sep w [rowOf encI ad1 cd1 3 1 (bitsF nm st ln mo sg num off den low high), box b1 [.string nm, .int .i64 st, .int .i64 ln, .bool mo, .bool sg, .int .i64 num, .int .i64 off, .int .i64 den, .int .i64 low, .int .i64 high] 23] w8 → WA Try.prog 3 38 R K3_7 13 #[true, true, true, false, false, false, false, false, false, false, false, false, false, false, false, false] [(1, .pointer (some ⟨b1, 0, none⟩)), (3, .int .i64 (lowF ln sg)), (4, .int .i64 (highF ln sg)), (5, .int .i64 (lowF ln sg)), (6, .int .i64 (highF ln sg)), (23, .agg #[.string nm, .int .i64 st, .int .i64 ln, .bool mo, .bool sg, .int .i64 num, .int .i64 off, .int .i64 den, .int .i64 low, .int .i64 high]), (24, .slice ad1 ((bitsF nm st ln mo sg num off den low high).length) cd1), (25, .agg #[.string nm, .int .i64 st, .int .i64 ln, .bool mo, .bool sg, .int .i64 num, .int .i64 off, .int .i64 den, .int .i64 low, .int .i64 high])] w8 := by
        intro ad1 cd1 w8 S8
        refine WA.all [3] (by kernel_rfl) rfl ⟨?_, trivial⟩
        · skip
          refine WO.set #[true, true, true, true, false, false, false, false, false, false, false, false, false, false, false, false] (by kernel_rfl) ?_
          refine WO.callF 26 12 #[.agg #[.string nm, .int .i64 st, .int .i64 ln, .bool mo, .bool sg, .int .i64 num, .int .i64 off, .int .i64 den, .int .i64 low, .int .i64 high]] hb12 (by kernel_rfl) (rbits_any nm st ln mo sg num off den low high _ (by first | omega | decide)) ?_
          rintro _ w9 ⟨ad3, cd3, rfl, T5⟩
          have S9 : Sep w [rowOf encI ad3 cd3 3 1 (bitsF nm st ln mo sg num off den low high), rowOf encI ad1 cd1 3 1 (bitsF nm st ln mo sg num off den low high), box b1 [.string nm, .int .i64 st, .int .i64 ln, .bool mo, .bool sg, .int .i64 num, .int .i64 off, .int .i64 den, .int .i64 low, .int .i64 high] 23] w9 := S8.trans T5
          clear T5 S8
          refine WA.weaken (env' := [(1, .pointer (some ⟨b1, 0, none⟩)), (3, .int .i64 (lowF ln sg)), (4, .int .i64 (highF ln sg)), (5, .int .i64 (lowF ln sg)), (6, .int .i64 (highF ln sg)), (23, .agg #[.string nm, .int .i64 st, .int .i64 ln, .bool mo, .bool sg, .int .i64 num, .int .i64 off, .int .i64 den, .int .i64 low, .int .i64 high]), (24, .slice ad1 ((bitsF nm st ln mo sg num off den low high).length) cd1), (25, .agg #[.string nm, .int .i64 st, .int .i64 ln, .bool mo, .bool sg, .int .i64 num, .int .i64 off, .int .i64 den, .int .i64 low, .int .i64 high]), (26, .slice ad3 ((bitsF nm st ln mo sg num off den low high).length) cd3)]) (by kernel_rfl) ?_
          exact W2 ad1 cd1 ad3 cd3 w9 S9
      have W4 : ∀ (w10 : World), Sep w [box b1 [.string nm, .int .i64 st, .int .i64 ln, .bool mo, .bool sg, .int .i64 num, .int .i64 off, .int .i64 den, .int .i64 low, .int .i64 high] 23] w10 → WA Try.prog 3 38 R K3_7 14 #[true, false, true, false, false, false, false, false, false, false, false, false, false, false, false, false] [(1, .pointer (some ⟨b1, 0, none⟩)), (3, .int .i64 (lowF ln sg)), (4, .int .i64 (highF ln sg)), (5, .int .i64 (lowF ln sg)), (6, .int .i64 (highF ln sg)), (23, .agg #[.string nm, .int .i64 st, .int .i64 ln, .bool mo, .bool sg, .int .i64 num, .int .i64 off, .int .i64 den, .int .i64 low, .int .i64 high]), (25, .agg #[.string nm, .int .i64 st, .int .i64 ln, .bool mo, .bool sg, .int .i64 num, .int .i64 off, .int .i64 den, .int .i64 low, .int .i64 high])] w10 := by
        intro w10 S10
        refine WA.all [1] (by kernel_rfl) rfl ⟨?_, trivial⟩
        · skip
          refine WO.set #[true, true, true, false, false, false, false, false, false, false, false, false, false, false, false, false] (by kernel_rfl) ?_
          refine WO.callF 24 11 #[.agg #[.string nm, .int .i64 st, .int .i64 ln, .bool mo, .bool sg, .int .i64 num, .int .i64 off, .int .i64 den, .int .i64 low, .int .i64 high]] hb11 (by kernel_rfl) (bits_any nm st ln mo sg num off den low high _ (by first | omega | decide)) ?_
          rintro _ w11 ⟨ad1, cd1, rfl, T6⟩
          have S11 : Sep w [rowOf encI ad1 cd1 3 1 (bitsF nm st ln mo sg num off den low high), box b1 [.string nm, .int .i64 st, .int .i64 ln, .bool mo, .bool sg, .int .i64 num, .int .i64 off, .int .i64 den, .int .i64 low, .int .i64 high] 23] w11 := S10.trans T6
          clear T6 S10
          refine WA.weaken (env' := [(1, .pointer (some ⟨b1, 0, none⟩)), (3, .int .i64 (lowF ln sg)), (4, .int .i64 (highF ln sg)), (5, .int .i64 (lowF ln sg)), (6, .int .i64 (highF ln sg)), (23, .agg #[.string nm, .int .i64 st, .int .i64 ln, .bool mo, .bool sg, .int .i64 num, .int .i64 off, .int .i64 den, .int .i64 low, .int .i64 high]), (24, .slice ad1 ((bitsF nm st ln mo sg num off den low high).length) cd1), (25, .agg #[.string nm, .int .i64 st, .int .i64 ln, .bool mo, .bool sg, .int .i64 num, .int .i64 off, .int .i64 den, .int .i64 low, .int .i64 high])]) (by kernel_rfl) ?_
          exact W3 ad1 cd1 w11 S11
      have W5 : ∀ (ad1 : Option Addr) (cd1 : Nat) (w12 : World), Sep w [rowOf encI ad1 cd1 3 1 (bitsF nm st ln mo sg num off den low high), box b1 [.string nm, .int .i64 st, .int .i64 ln, .bool mo, .bool sg, .int .i64 num, .int .i64 off, .int .i64 den, .int .i64 low, .int .i64 high] 23] w12 → WA Try.prog 3 38 R K3_7 14 #[true, true, false, false, false, false, false, false, false, false, false, false, false, false, false, false] [(1, .pointer (some ⟨b1, 0, none⟩)), (3, .int .i64 (lowF ln sg)), (4, .int .i64 (highF ln sg)), (5, .int .i64 (lowF ln sg)), (6, .int .i64 (highF ln sg)), (23, .agg #[.string nm, .int .i64 st, .int .i64 ln, .bool mo, .bool sg, .int .i64 num, .int .i64 off, .int .i64 den, .int .i64 low, .int .i64 high]), (24, .slice ad1 ((bitsF nm st ln mo sg num off den low high).length) cd1)] w12 := by
        intro ad1 cd1 w12 S12
        refine WA.all [2] (by kernel_rfl) rfl ⟨?_, trivial⟩
        · skip
          refine WO.set #[true, true, true, false, false, false, false, false, false, false, false, false, false, false, false, false] (by kernel_rfl) ?_
          refine WO.ok (OK.ldBox S12 1 25 23 0 (.agg #[.string nm, .int .i64 st, .int .i64 ln, .bool mo, .bool sg, .int .i64 num, .int .i64 off, .int .i64 den, .int .i64 low, .int .i64 high]) (by kernel_rfl) rfl (by kernel_rfl)) ?_
          refine WA.weaken (env' := [(1, .pointer (some ⟨b1, 0, none⟩)), (3, .int .i64 (lowF ln sg)), (4, .int .i64 (highF ln sg)), (5, .int .i64 (lowF ln sg)), (6, .int .i64 (highF ln sg)), (23, .agg #[.string nm, .int .i64 st, .int .i64 ln, .bool mo, .bool sg, .int .i64 num, .int .i64 off, .int .i64 den, .int .i64 low, .int .i64 high]), (24, .slice ad1 ((bitsF nm st ln mo sg num off den low high).length) cd1), (25, .agg #[.string nm, .int .i64 st, .int .i64 ln, .bool mo, .bool sg, .int .i64 num, .int .i64 off, .int .i64 den, .int .i64 low, .int .i64 high])]) (by kernel_rfl) ?_
          exact W3 ad1 cd1 w12 S12
      have W6 : ∀ (w13 : World), Sep w [box b1 [.string nm, .int .i64 st, .int .i64 ln, .bool mo, .bool sg, .int .i64 num, .int .i64 off, .int .i64 den, .int .i64 low, .int .i64 high] 23] w13 → WA Try.prog 3 38 R K3_7 15 #[true, false, false, false, false, false, false, false, false, false, false, false, false, false, false, false] [(1, .pointer (some ⟨b1, 0, none⟩)), (3, .int .i64 (lowF ln sg)), (4, .int .i64 (highF ln sg)), (5, .int .i64 (lowF ln sg)), (6, .int .i64 (highF ln sg)), (23, .agg #[.string nm, .int .i64 st, .int .i64 ln, .bool mo, .bool sg, .int .i64 num, .int .i64 off, .int .i64 den, .int .i64 low, .int .i64 high])] w13 := by
        intro w13 S13
        refine WA.all [1, 2] (by kernel_rfl) rfl ⟨?_, ?_, trivial⟩
        · skip
          refine WO.set #[true, true, false, false, false, false, false, false, false, false, false, false, false, false, false, false] (by kernel_rfl) ?_
          refine WO.callF 24 11 #[.agg #[.string nm, .int .i64 st, .int .i64 ln, .bool mo, .bool sg, .int .i64 num, .int .i64 off, .int .i64 den, .int .i64 low, .int .i64 high]] hb11 (by kernel_rfl) (bits_any nm st ln mo sg num off den low high _ (by first | omega | decide)) ?_
          rintro _ w14 ⟨ad1, cd1, rfl, T7⟩
          have S14 : Sep w [rowOf encI ad1 cd1 3 1 (bitsF nm st ln mo sg num off den low high), box b1 [.string nm, .int .i64 st, .int .i64 ln, .bool mo, .bool sg, .int .i64 num, .int .i64 off, .int .i64 den, .int .i64 low, .int .i64 high] 23] w14 := S13.trans T7
          clear T7 S13
          refine WA.weaken (env' := [(1, .pointer (some ⟨b1, 0, none⟩)), (3, .int .i64 (lowF ln sg)), (4, .int .i64 (highF ln sg)), (5, .int .i64 (lowF ln sg)), (6, .int .i64 (highF ln sg)), (23, .agg #[.string nm, .int .i64 st, .int .i64 ln, .bool mo, .bool sg, .int .i64 num, .int .i64 off, .int .i64 den, .int .i64 low, .int .i64 high]), (24, .slice ad1 ((bitsF nm st ln mo sg num off den low high).length) cd1)]) (by kernel_rfl) ?_
          exact W5 ad1 cd1 w14 S14
        · skip
          refine WO.set #[true, false, true, false, false, false, false, false, false, false, false, false, false, false, false, false] (by kernel_rfl) ?_
          refine WO.ok (OK.ldBox S13 0 25 23 0 (.agg #[.string nm, .int .i64 st, .int .i64 ln, .bool mo, .bool sg, .int .i64 num, .int .i64 off, .int .i64 den, .int .i64 low, .int .i64 high]) (by kernel_rfl) rfl (by kernel_rfl)) ?_
          refine WA.weaken (env' := [(1, .pointer (some ⟨b1, 0, none⟩)), (3, .int .i64 (lowF ln sg)), (4, .int .i64 (highF ln sg)), (5, .int .i64 (lowF ln sg)), (6, .int .i64 (highF ln sg)), (23, .agg #[.string nm, .int .i64 st, .int .i64 ln, .bool mo, .bool sg, .int .i64 num, .int .i64 off, .int .i64 den, .int .i64 low, .int .i64 high]), (25, .agg #[.string nm, .int .i64 st, .int .i64 ln, .bool mo, .bool sg, .int .i64 num, .int .i64 off, .int .i64 den, .int .i64 low, .int .i64 high])]) (by kernel_rfl) ?_
          exact W4 w13 S13
      have W7 : ∀ (w15 : World), Sep w [box b1 [.string nm, .int .i64 st, .int .i64 ln, .bool mo, .bool sg, .int .i64 num, .int .i64 off, .int .i64 den, .int .i64 low, .int .i64 high] 23] w15 → WA Try.prog 3 38 R K3_7 15 #[false, false, true, false, false, false, false, false, false, false, false, false, false, false, false, false] [(1, .pointer (some ⟨b1, 0, none⟩)), (3, .int .i64 (lowF ln sg)), (4, .int .i64 (highF ln sg)), (5, .int .i64 (lowF ln sg)), (6, .int .i64 (highF ln sg)), (25, .agg #[.string nm, .int .i64 st, .int .i64 ln, .bool mo, .bool sg, .int .i64 num, .int .i64 off, .int .i64 den, .int .i64 low, .int .i64 high])] w15 := by
        intro w15 S15
        refine WA.all [0] (by kernel_rfl) rfl ⟨?_, trivial⟩
        · skip
          refine WO.set #[true, false, true, false, false, false, false, false, false, false, false, false, false, false, false, false] (by kernel_rfl) ?_
          refine WO.ok (OK.ldBox S15 0 23 23 0 (.agg #[.string nm, .int .i64 st, .int .i64 ln, .bool mo, .bool sg, .int .i64 num, .int .i64 off, .int .i64 den, .int .i64 low, .int .i64 high]) (by kernel_rfl) rfl (by kernel_rfl)) ?_
          refine WA.weaken (env' := [(1, .pointer (some ⟨b1, 0, none⟩)), (3, .int .i64 (lowF ln sg)), (4, .int .i64 (highF ln sg)), (5, .int .i64 (lowF ln sg)), (6, .int .i64 (highF ln sg)), (23, .agg #[.string nm, .int .i64 st, .int .i64 ln, .bool mo, .bool sg, .int .i64 num, .int .i64 off, .int .i64 den, .int .i64 low, .int .i64 high]), (25, .agg #[.string nm, .int .i64 st, .int .i64 ln, .bool mo, .bool sg, .int .i64 num, .int .i64 off, .int .i64 den, .int .i64 low, .int .i64 high])]) (by kernel_rfl) ?_
          exact W4 w15 S15
      have W8 : ∀ (w16 : World), Sep w [box b1 [.string nm, .int .i64 st, .int .i64 ln, .bool mo, .bool sg, .int .i64 num, .int .i64 off, .int .i64 den, .int .i64 low, .int .i64 high] 23] w16 → WA Try.prog 3 38 R K3_7 16 #[false, false, false, false, false, false, false, false, false, false, false, false, false, false, false, false] [(1, .pointer (some ⟨b1, 0, none⟩)), (3, .int .i64 (lowF ln sg)), (4, .int .i64 (highF ln sg)), (5, .int .i64 (lowF ln sg)), (6, .int .i64 (highF ln sg))] w16 := by
        intro w16 S16
        refine WA.all [0, 2] (by kernel_rfl) rfl ⟨?_, ?_, trivial⟩
        · skip
          refine WO.set #[true, false, false, false, false, false, false, false, false, false, false, false, false, false, false, false] (by kernel_rfl) ?_
          refine WO.ok (OK.ldBox S16 0 23 23 0 (.agg #[.string nm, .int .i64 st, .int .i64 ln, .bool mo, .bool sg, .int .i64 num, .int .i64 off, .int .i64 den, .int .i64 low, .int .i64 high]) (by kernel_rfl) rfl (by kernel_rfl)) ?_
          refine WA.weaken (env' := [(1, .pointer (some ⟨b1, 0, none⟩)), (3, .int .i64 (lowF ln sg)), (4, .int .i64 (highF ln sg)), (5, .int .i64 (lowF ln sg)), (6, .int .i64 (highF ln sg)), (23, .agg #[.string nm, .int .i64 st, .int .i64 ln, .bool mo, .bool sg, .int .i64 num, .int .i64 off, .int .i64 den, .int .i64 low, .int .i64 high])]) (by kernel_rfl) ?_
          exact W6 w16 S16
        · skip
          refine WO.set #[false, false, true, false, false, false, false, false, false, false, false, false, false, false, false, false] (by kernel_rfl) ?_
          refine WO.ok (OK.ldBox S16 0 25 23 0 (.agg #[.string nm, .int .i64 st, .int .i64 ln, .bool mo, .bool sg, .int .i64 num, .int .i64 off, .int .i64 den, .int .i64 low, .int .i64 high]) (by kernel_rfl) rfl (by kernel_rfl)) ?_
          refine WA.weaken (env' := [(1, .pointer (some ⟨b1, 0, none⟩)), (3, .int .i64 (lowF ln sg)), (4, .int .i64 (highF ln sg)), (5, .int .i64 (lowF ln sg)), (6, .int .i64 (highF ln sg)), (25, .agg #[.string nm, .int .i64 st, .int .i64 ln, .bool mo, .bool sg, .int .i64 num, .int .i64 off, .int .i64 den, .int .i64 low, .int .i64 high])]) (by kernel_rfl) ?_
          exact W7 w16 S16
      refine J.drawAny S4 16 #[false, false, false, false, false, false, false, false, false, false, false, false, false, false, false, false] Try.mixed (by kernel_rfl) (by kernel_rfl) (by kernel_rfl) ?_
      intro w17 S17
      refine WA.weaken (env' := [(1, .pointer (some ⟨b1, 0, none⟩)), (3, .int .i64 (lowF ln sg)), (4, .int .i64 (highF ln sg)), (5, .int .i64 (lowF ln sg)), (6, .int .i64 (highF ln sg))]) (by kernel_rfl) ?_
      exact W8 w17 S17
    · skip
      refine J.callF 15 8 #[.agg #[.string nm, .int .i64 st, .int .i64 ln, .bool mo, .bool sg, .int .i64 num, .int .i64 off, .int .i64 den, .int .i64 low, .int .i64 high]] hb8 (by kernel_rfl) (limits_any nm st ln mo sg num off den low high _ (by omega)) ?_
      rintro _ w18 ⟨rfl, T8⟩
      have S18 : Sep w [box b1 [.string nm, .int .i64 st, .int .i64 ln, .bool mo, .bool sg, .int .i64 num, .int .i64 off, .int .i64 den, .int .i64 low, .int .i64 high] 23] w18 := S2.trans T8
      clear T8 S2
      refine J.head (.tuple #[.int .i64 0, .int .i64 0]) (by first | (simp only [limV, fk2, reduceCtorEq, ↓reduceIte]; done) | simp [limV, fk2]) ?_
      refine J.run 8 K3_8 [(4, .int .i64 0), (3, .int .i64 0), (1, .pointer (some ⟨b1, 0, none⟩))] w18 (by kernel_rfl) ?_
      refine J.ok (OK.ldBox S18 0 19 23 0 (.agg #[.string nm, .int .i64 st, .int .i64 ln, .bool mo, .bool sg, .int .i64 num, .int .i64 off, .int .i64 den, .int .i64 low, .int .i64 high]) (by kernel_rfl) rfl (by kernel_rfl)) ?_
      refine J.callF 20 9 #[.agg #[.string nm, .int .i64 st, .int .i64 ln, .bool mo, .bool sg, .int .i64 num, .int .i64 off, .int .i64 den, .int .i64 low, .int .i64 high]] hb9 (by kernel_rfl) (rlimits_any nm st ln mo sg num off den low high _ (by omega)) ?_
      rintro _ w19 ⟨rfl, T9⟩
      have S19 : Sep w [box b1 [.string nm, .int .i64 st, .int .i64 ln, .bool mo, .bool sg, .int .i64 num, .int .i64 off, .int .i64 den, .int .i64 low, .int .i64 high] 23] w19 := S18.trans T9
      clear T9 S18
      refine J.head (.tuple #[.int .i64 0, .int .i64 0]) (by first | (simp only [limV, fk2, reduceCtorEq, ↓reduceIte]; done) | simp [limV, fk2]) ?_
      refine J.run 7 K3_9 [(6, .int .i64 0), (5, .int .i64 0), (4, .int .i64 0), (3, .int .i64 0), (1, .pointer (some ⟨b1, 0, none⟩))] w19 (by kernel_rfl) ?_
      have W9 : ∀ (ad1 : Option Addr) (cd1 : Nat) (ad3 : Option Addr) (cd3 : Nat) (w20 : World), Sep w [rowOf encI ad3 cd3 3 1 (bitsF nm st ln mo sg num off den low high), rowOf encI ad1 cd1 3 1 (bitsF nm st ln mo sg num off den low high), box b1 [.string nm, .int .i64 st, .int .i64 ln, .bool mo, .bool sg, .int .i64 num, .int .i64 off, .int .i64 den, .int .i64 low, .int .i64 high] 23] w20 → WA Try.prog 3 38 R K3_9 0 #[true, true, true, true, true, true, true, true, true, true, true, true, true, true, true, true] [(1, .pointer (some ⟨b1, 0, none⟩)), (2, .bool true), (3, .int .i64 0), (4, .int .i64 0), (5, .int .i64 0), (6, .int .i64 0), (23, .agg #[.string nm, .int .i64 st, .int .i64 ln, .bool mo, .bool sg, .int .i64 num, .int .i64 off, .int .i64 den, .int .i64 low, .int .i64 high]), (24, .slice ad1 ((bitsF nm st ln mo sg num off den low high).length) cd1), (25, .agg #[.string nm, .int .i64 st, .int .i64 ln, .bool mo, .bool sg, .int .i64 num, .int .i64 off, .int .i64 den, .int .i64 low, .int .i64 high]), (26, .slice ad3 ((bitsF nm st ln mo sg num off den low high).length) cd3), (27, .bool true), (28, .bool true), (29, .int .i64 0), (30, .int .i64 0), (31, .bool true), (32, .bool true), (33, .bool true), (34, .int .i64 0), (35, .int .i64 0), (36, .bool true), (37, .bool true)] w20 := by
        intro ad1 cd1 ad3 cd3 w20 S20
        refine WA.done (by kernel_rfl) ?_
        refine J.run 0 (rRest K3_9) [(2, .bool true)] w20 (by kernel_rfl) ?_
        refine J.ret Try.f3 [.bool true] Try.func3 ⟨by kernel_rfl, trivial⟩ ?_
        refine hR _ _ ?_
        exact ⟨rfl, S20.nil⟩
      have W10 : ∀ (ad1 : Option Addr) (cd1 : Nat) (ad3 : Option Addr) (cd3 : Nat) (w21 : World), Sep w [rowOf encI ad3 cd3 3 1 (bitsF nm st ln mo sg num off den low high), rowOf encI ad1 cd1 3 1 (bitsF nm st ln mo sg num off den low high), box b1 [.string nm, .int .i64 st, .int .i64 ln, .bool mo, .bool sg, .int .i64 num, .int .i64 off, .int .i64 den, .int .i64 low, .int .i64 high] 23] w21 → WA Try.prog 3 38 R K3_9 12 #[true, true, true, true, false, false, false, false, false, false, false, false, false, false, false, false] [(1, .pointer (some ⟨b1, 0, none⟩)), (3, .int .i64 0), (4, .int .i64 0), (5, .int .i64 0), (6, .int .i64 0), (23, .agg #[.string nm, .int .i64 st, .int .i64 ln, .bool mo, .bool sg, .int .i64 num, .int .i64 off, .int .i64 den, .int .i64 low, .int .i64 high]), (24, .slice ad1 ((bitsF nm st ln mo sg num off den low high).length) cd1), (25, .agg #[.string nm, .int .i64 st, .int .i64 ln, .bool mo, .bool sg, .int .i64 num, .int .i64 off, .int .i64 den, .int .i64 low, .int .i64 high]), (26, .slice ad3 ((bitsF nm st ln mo sg num off den low high).length) cd3)] w21 := by
        intro ad1 cd1 ad3 cd3 w21 S21
        refine WA.all [4] (by kernel_rfl) rfl ⟨?_, trivial⟩
        · skip
          refine WO.set #[true, true, true, true, true, false, false, false, false, false, false, false, false, false, false, false] (by kernel_rfl) ?_
          have := rowOf_len (S21.nth 1 rfl)
          have := rowOf_len (S21.nth 0 rfl)
          refine WO.callF 27 10 #[.slice ad1 ((bitsF nm st ln mo sg num off den low high).length) cd1, .slice ad3 ((bitsF nm st ln mo sg num off den low high).length) cd3] hb10 (by kernel_rfl) (equal_any ad1 ((bitsF nm st ln mo sg num off den low high).length) cd1 (bitsF nm st ln mo sg num off den low high) ad3 ((bitsF nm st ln mo sg num off den low high).length) cd3 (bitsF nm st ln mo sg num off den low high) _ ((row1_ones (S21.nth 1 rfl) ((bitsF nm st ln mo sg num off den low high).length) (by first | rfl | omega | simp))) ((row1_ones (S21.nth 0 rfl) ((bitsF nm st ln mo sg num off den low high).length) (by first | rfl | omega | simp))) (by first | omega | (simp; omega))) ?_
          rintro _ w22 ⟨rfl, T10⟩
          have S22 : Sep w [rowOf encI ad3 cd3 3 1 (bitsF nm st ln mo sg num off den low high), rowOf encI ad1 cd1 3 1 (bitsF nm st ln mo sg num off den low high), box b1 [.string nm, .int .i64 st, .int .i64 ln, .bool mo, .bool sg, .int .i64 num, .int .i64 off, .int .i64 den, .int .i64 low, .int .i64 high] 23] w22 := S21.trans T10
          clear T10 S21
          refine WA.head (.bool true) (congrArg Value.bool (beq_self_eq_true _)) ?_
          refine WA.take 5 28 (.bool true) #[true, true, true, true, true, true, false, false, false, false, false, false, false, false, false, false] (by kernel_rfl) (by kernel_rfl) (by kernel_rfl) (fun _ => by kernel_rfl) (by kernel_rfl) ?_
          refine WA.take 6 29 (.int .i64 0) #[true, true, true, true, true, true, true, false, false, false, false, false, false, false, false, false] (by kernel_rfl) (by kernel_rfl) (by kernel_rfl) (fun _ => by kernel_rfl) (by kernel_rfl) ?_
          refine WA.take 7 30 (.int .i64 0) #[true, true, true, true, true, true, true, true, false, false, false, false, false, false, false, false] (by kernel_rfl) (by kernel_rfl) (by kernel_rfl) (fun _ => by kernel_rfl) (by kernel_rfl) ?_
          refine WA.take 8 31 (.bool true) #[true, true, true, true, true, true, true, true, true, false, false, false, false, false, false, false] (by kernel_rfl) (by kernel_rfl) (by kernel_rfl) (fun _ => by kernel_rfl) (by kernel_rfl) ?_
          refine WA.take 9 32 (.bool true) #[true, true, true, true, true, true, true, true, true, true, false, false, false, false, false, false] (by kernel_rfl) (by kernel_rfl) (by kernel_rfl) (fun _ => by kernel_rfl) (by kernel_rfl) ?_
          refine WA.take 10 33 (.bool true) #[true, true, true, true, true, true, true, true, true, true, true, false, false, false, false, false] (by kernel_rfl) (by kernel_rfl) (by kernel_rfl) (fun _ => by kernel_rfl) (by kernel_rfl) ?_
          refine WA.take 11 34 (.int .i64 0) #[true, true, true, true, true, true, true, true, true, true, true, true, false, false, false, false] (by kernel_rfl) (by kernel_rfl) (by kernel_rfl) (fun _ => by kernel_rfl) (by kernel_rfl) ?_
          refine WA.take 12 35 (.int .i64 0) #[true, true, true, true, true, true, true, true, true, true, true, true, true, false, false, false] (by kernel_rfl) (by kernel_rfl) (by kernel_rfl) (fun _ => by kernel_rfl) (by kernel_rfl) ?_
          refine WA.take 13 36 (.bool true) #[true, true, true, true, true, true, true, true, true, true, true, true, true, true, false, false] (by kernel_rfl) (by kernel_rfl) (by kernel_rfl) (fun _ => by kernel_rfl) (by kernel_rfl) ?_
          refine WA.take 14 37 (.bool true) #[true, true, true, true, true, true, true, true, true, true, true, true, true, true, true, false] (by kernel_rfl) (by kernel_rfl) (by kernel_rfl) (fun _ => by kernel_rfl) (by kernel_rfl) ?_
          refine WA.take 15 2 (.bool true) #[true, true, true, true, true, true, true, true, true, true, true, true, true, true, true, true] (by kernel_rfl) (by kernel_rfl) (by kernel_rfl) (fun _ => by kernel_rfl) (by kernel_rfl) ?_
          refine WA.weaken (env' := [(1, .pointer (some ⟨b1, 0, none⟩)), (2, .bool true), (3, .int .i64 0), (4, .int .i64 0), (5, .int .i64 0), (6, .int .i64 0), (23, .agg #[.string nm, .int .i64 st, .int .i64 ln, .bool mo, .bool sg, .int .i64 num, .int .i64 off, .int .i64 den, .int .i64 low, .int .i64 high]), (24, .slice ad1 ((bitsF nm st ln mo sg num off den low high).length) cd1), (25, .agg #[.string nm, .int .i64 st, .int .i64 ln, .bool mo, .bool sg, .int .i64 num, .int .i64 off, .int .i64 den, .int .i64 low, .int .i64 high]), (26, .slice ad3 ((bitsF nm st ln mo sg num off den low high).length) cd3), (27, .bool true), (28, .bool true), (29, .int .i64 0), (30, .int .i64 0), (31, .bool true), (32, .bool true), (33, .bool true), (34, .int .i64 0), (35, .int .i64 0), (36, .bool true), (37, .bool true)]) (by kernel_rfl) ?_
          exact W9 ad1 cd1 ad3 cd3 w22 S22
      have W11 : ∀ (ad1 : Option Addr) (cd1 : Nat) (w23 : World), Sep w [rowOf encI ad1 cd1 3 1 (bitsF nm st ln mo sg num off den low high), box b1 [.string nm, .int .i64 st, .int .i64 ln, .bool mo, .bool sg, .int .i64 num, .int .i64 off, .int .i64 den, .int .i64 low, .int .i64 high] 23] w23 → WA Try.prog 3 38 R K3_9 13 #[true, true, true, false, false, false, false, false, false, false, false, false, false, false, false, false] [(1, .pointer (some ⟨b1, 0, none⟩)), (3, .int .i64 0), (4, .int .i64 0), (5, .int .i64 0), (6, .int .i64 0), (23, .agg #[.string nm, .int .i64 st, .int .i64 ln, .bool mo, .bool sg, .int .i64 num, .int .i64 off, .int .i64 den, .int .i64 low, .int .i64 high]), (24, .slice ad1 ((bitsF nm st ln mo sg num off den low high).length) cd1), (25, .agg #[.string nm, .int .i64 st, .int .i64 ln, .bool mo, .bool sg, .int .i64 num, .int .i64 off, .int .i64 den, .int .i64 low, .int .i64 high])] w23 := by
        intro ad1 cd1 w23 S23
        refine WA.all [3] (by kernel_rfl) rfl ⟨?_, trivial⟩
        · skip
          refine WO.set #[true, true, true, true, false, false, false, false, false, false, false, false, false, false, false, false] (by kernel_rfl) ?_
          refine WO.callF 26 12 #[.agg #[.string nm, .int .i64 st, .int .i64 ln, .bool mo, .bool sg, .int .i64 num, .int .i64 off, .int .i64 den, .int .i64 low, .int .i64 high]] hb12 (by kernel_rfl) (rbits_any nm st ln mo sg num off den low high _ (by first | omega | decide)) ?_
          rintro _ w24 ⟨ad3, cd3, rfl, T11⟩
          have S24 : Sep w [rowOf encI ad3 cd3 3 1 (bitsF nm st ln mo sg num off den low high), rowOf encI ad1 cd1 3 1 (bitsF nm st ln mo sg num off den low high), box b1 [.string nm, .int .i64 st, .int .i64 ln, .bool mo, .bool sg, .int .i64 num, .int .i64 off, .int .i64 den, .int .i64 low, .int .i64 high] 23] w24 := S23.trans T11
          clear T11 S23
          refine WA.weaken (env' := [(1, .pointer (some ⟨b1, 0, none⟩)), (3, .int .i64 0), (4, .int .i64 0), (5, .int .i64 0), (6, .int .i64 0), (23, .agg #[.string nm, .int .i64 st, .int .i64 ln, .bool mo, .bool sg, .int .i64 num, .int .i64 off, .int .i64 den, .int .i64 low, .int .i64 high]), (24, .slice ad1 ((bitsF nm st ln mo sg num off den low high).length) cd1), (25, .agg #[.string nm, .int .i64 st, .int .i64 ln, .bool mo, .bool sg, .int .i64 num, .int .i64 off, .int .i64 den, .int .i64 low, .int .i64 high]), (26, .slice ad3 ((bitsF nm st ln mo sg num off den low high).length) cd3)]) (by kernel_rfl) ?_
          exact W10 ad1 cd1 ad3 cd3 w24 S24
      have W12 : ∀ (w25 : World), Sep w [box b1 [.string nm, .int .i64 st, .int .i64 ln, .bool mo, .bool sg, .int .i64 num, .int .i64 off, .int .i64 den, .int .i64 low, .int .i64 high] 23] w25 → WA Try.prog 3 38 R K3_9 14 #[true, false, true, false, false, false, false, false, false, false, false, false, false, false, false, false] [(1, .pointer (some ⟨b1, 0, none⟩)), (3, .int .i64 0), (4, .int .i64 0), (5, .int .i64 0), (6, .int .i64 0), (23, .agg #[.string nm, .int .i64 st, .int .i64 ln, .bool mo, .bool sg, .int .i64 num, .int .i64 off, .int .i64 den, .int .i64 low, .int .i64 high]), (25, .agg #[.string nm, .int .i64 st, .int .i64 ln, .bool mo, .bool sg, .int .i64 num, .int .i64 off, .int .i64 den, .int .i64 low, .int .i64 high])] w25 := by
        intro w25 S25
        refine WA.all [1] (by kernel_rfl) rfl ⟨?_, trivial⟩
        · skip
          refine WO.set #[true, true, true, false, false, false, false, false, false, false, false, false, false, false, false, false] (by kernel_rfl) ?_
          refine WO.callF 24 11 #[.agg #[.string nm, .int .i64 st, .int .i64 ln, .bool mo, .bool sg, .int .i64 num, .int .i64 off, .int .i64 den, .int .i64 low, .int .i64 high]] hb11 (by kernel_rfl) (bits_any nm st ln mo sg num off den low high _ (by first | omega | decide)) ?_
          rintro _ w26 ⟨ad1, cd1, rfl, T12⟩
          have S26 : Sep w [rowOf encI ad1 cd1 3 1 (bitsF nm st ln mo sg num off den low high), box b1 [.string nm, .int .i64 st, .int .i64 ln, .bool mo, .bool sg, .int .i64 num, .int .i64 off, .int .i64 den, .int .i64 low, .int .i64 high] 23] w26 := S25.trans T12
          clear T12 S25
          refine WA.weaken (env' := [(1, .pointer (some ⟨b1, 0, none⟩)), (3, .int .i64 0), (4, .int .i64 0), (5, .int .i64 0), (6, .int .i64 0), (23, .agg #[.string nm, .int .i64 st, .int .i64 ln, .bool mo, .bool sg, .int .i64 num, .int .i64 off, .int .i64 den, .int .i64 low, .int .i64 high]), (24, .slice ad1 ((bitsF nm st ln mo sg num off den low high).length) cd1), (25, .agg #[.string nm, .int .i64 st, .int .i64 ln, .bool mo, .bool sg, .int .i64 num, .int .i64 off, .int .i64 den, .int .i64 low, .int .i64 high])]) (by kernel_rfl) ?_
          exact W11 ad1 cd1 w26 S26
      have W13 : ∀ (ad1 : Option Addr) (cd1 : Nat) (w27 : World), Sep w [rowOf encI ad1 cd1 3 1 (bitsF nm st ln mo sg num off den low high), box b1 [.string nm, .int .i64 st, .int .i64 ln, .bool mo, .bool sg, .int .i64 num, .int .i64 off, .int .i64 den, .int .i64 low, .int .i64 high] 23] w27 → WA Try.prog 3 38 R K3_9 14 #[true, true, false, false, false, false, false, false, false, false, false, false, false, false, false, false] [(1, .pointer (some ⟨b1, 0, none⟩)), (3, .int .i64 0), (4, .int .i64 0), (5, .int .i64 0), (6, .int .i64 0), (23, .agg #[.string nm, .int .i64 st, .int .i64 ln, .bool mo, .bool sg, .int .i64 num, .int .i64 off, .int .i64 den, .int .i64 low, .int .i64 high]), (24, .slice ad1 ((bitsF nm st ln mo sg num off den low high).length) cd1)] w27 := by
        intro ad1 cd1 w27 S27
        refine WA.all [2] (by kernel_rfl) rfl ⟨?_, trivial⟩
        · skip
          refine WO.set #[true, true, true, false, false, false, false, false, false, false, false, false, false, false, false, false] (by kernel_rfl) ?_
          refine WO.ok (OK.ldBox S27 1 25 23 0 (.agg #[.string nm, .int .i64 st, .int .i64 ln, .bool mo, .bool sg, .int .i64 num, .int .i64 off, .int .i64 den, .int .i64 low, .int .i64 high]) (by kernel_rfl) rfl (by kernel_rfl)) ?_
          refine WA.weaken (env' := [(1, .pointer (some ⟨b1, 0, none⟩)), (3, .int .i64 0), (4, .int .i64 0), (5, .int .i64 0), (6, .int .i64 0), (23, .agg #[.string nm, .int .i64 st, .int .i64 ln, .bool mo, .bool sg, .int .i64 num, .int .i64 off, .int .i64 den, .int .i64 low, .int .i64 high]), (24, .slice ad1 ((bitsF nm st ln mo sg num off den low high).length) cd1), (25, .agg #[.string nm, .int .i64 st, .int .i64 ln, .bool mo, .bool sg, .int .i64 num, .int .i64 off, .int .i64 den, .int .i64 low, .int .i64 high])]) (by kernel_rfl) ?_
          exact W11 ad1 cd1 w27 S27
      have W14 : ∀ (w28 : World), Sep w [box b1 [.string nm, .int .i64 st, .int .i64 ln, .bool mo, .bool sg, .int .i64 num, .int .i64 off, .int .i64 den, .int .i64 low, .int .i64 high] 23] w28 → WA Try.prog 3 38 R K3_9 15 #[true, false, false, false, false, false, false, false, false, false, false, false, false, false, false, false] [(1, .pointer (some ⟨b1, 0, none⟩)), (3, .int .i64 0), (4, .int .i64 0), (5, .int .i64 0), (6, .int .i64 0), (23, .agg #[.string nm, .int .i64 st, .int .i64 ln, .bool mo, .bool sg, .int .i64 num, .int .i64 off, .int .i64 den, .int .i64 low, .int .i64 high])] w28 := by
        intro w28 S28
        refine WA.all [1, 2] (by kernel_rfl) rfl ⟨?_, ?_, trivial⟩
        · skip
          refine WO.set #[true, true, false, false, false, false, false, false, false, false, false, false, false, false, false, false] (by kernel_rfl) ?_
          refine WO.callF 24 11 #[.agg #[.string nm, .int .i64 st, .int .i64 ln, .bool mo, .bool sg, .int .i64 num, .int .i64 off, .int .i64 den, .int .i64 low, .int .i64 high]] hb11 (by kernel_rfl) (bits_any nm st ln mo sg num off den low high _ (by first | omega | decide)) ?_
          rintro _ w29 ⟨ad1, cd1, rfl, T13⟩
          have S29 : Sep w [rowOf encI ad1 cd1 3 1 (bitsF nm st ln mo sg num off den low high), box b1 [.string nm, .int .i64 st, .int .i64 ln, .bool mo, .bool sg, .int .i64 num, .int .i64 off, .int .i64 den, .int .i64 low, .int .i64 high] 23] w29 := S28.trans T13
          clear T13 S28
          refine WA.weaken (env' := [(1, .pointer (some ⟨b1, 0, none⟩)), (3, .int .i64 0), (4, .int .i64 0), (5, .int .i64 0), (6, .int .i64 0), (23, .agg #[.string nm, .int .i64 st, .int .i64 ln, .bool mo, .bool sg, .int .i64 num, .int .i64 off, .int .i64 den, .int .i64 low, .int .i64 high]), (24, .slice ad1 ((bitsF nm st ln mo sg num off den low high).length) cd1)]) (by kernel_rfl) ?_
          exact W13 ad1 cd1 w29 S29
        · skip
          refine WO.set #[true, false, true, false, false, false, false, false, false, false, false, false, false, false, false, false] (by kernel_rfl) ?_
          refine WO.ok (OK.ldBox S28 0 25 23 0 (.agg #[.string nm, .int .i64 st, .int .i64 ln, .bool mo, .bool sg, .int .i64 num, .int .i64 off, .int .i64 den, .int .i64 low, .int .i64 high]) (by kernel_rfl) rfl (by kernel_rfl)) ?_
          refine WA.weaken (env' := [(1, .pointer (some ⟨b1, 0, none⟩)), (3, .int .i64 0), (4, .int .i64 0), (5, .int .i64 0), (6, .int .i64 0), (23, .agg #[.string nm, .int .i64 st, .int .i64 ln, .bool mo, .bool sg, .int .i64 num, .int .i64 off, .int .i64 den, .int .i64 low, .int .i64 high]), (25, .agg #[.string nm, .int .i64 st, .int .i64 ln, .bool mo, .bool sg, .int .i64 num, .int .i64 off, .int .i64 den, .int .i64 low, .int .i64 high])]) (by kernel_rfl) ?_
          exact W12 w28 S28
      have W15 : ∀ (w30 : World), Sep w [box b1 [.string nm, .int .i64 st, .int .i64 ln, .bool mo, .bool sg, .int .i64 num, .int .i64 off, .int .i64 den, .int .i64 low, .int .i64 high] 23] w30 → WA Try.prog 3 38 R K3_9 15 #[false, false, true, false, false, false, false, false, false, false, false, false, false, false, false, false] [(1, .pointer (some ⟨b1, 0, none⟩)), (3, .int .i64 0), (4, .int .i64 0), (5, .int .i64 0), (6, .int .i64 0), (25, .agg #[.string nm, .int .i64 st, .int .i64 ln, .bool mo, .bool sg, .int .i64 num, .int .i64 off, .int .i64 den, .int .i64 low, .int .i64 high])] w30 := by
        intro w30 S30
        refine WA.all [0] (by kernel_rfl) rfl ⟨?_, trivial⟩
        · skip
          refine WO.set #[true, false, true, false, false, false, false, false, false, false, false, false, false, false, false, false] (by kernel_rfl) ?_
          refine WO.ok (OK.ldBox S30 0 23 23 0 (.agg #[.string nm, .int .i64 st, .int .i64 ln, .bool mo, .bool sg, .int .i64 num, .int .i64 off, .int .i64 den, .int .i64 low, .int .i64 high]) (by kernel_rfl) rfl (by kernel_rfl)) ?_
          refine WA.weaken (env' := [(1, .pointer (some ⟨b1, 0, none⟩)), (3, .int .i64 0), (4, .int .i64 0), (5, .int .i64 0), (6, .int .i64 0), (23, .agg #[.string nm, .int .i64 st, .int .i64 ln, .bool mo, .bool sg, .int .i64 num, .int .i64 off, .int .i64 den, .int .i64 low, .int .i64 high]), (25, .agg #[.string nm, .int .i64 st, .int .i64 ln, .bool mo, .bool sg, .int .i64 num, .int .i64 off, .int .i64 den, .int .i64 low, .int .i64 high])]) (by kernel_rfl) ?_
          exact W12 w30 S30
      have W16 : ∀ (w31 : World), Sep w [box b1 [.string nm, .int .i64 st, .int .i64 ln, .bool mo, .bool sg, .int .i64 num, .int .i64 off, .int .i64 den, .int .i64 low, .int .i64 high] 23] w31 → WA Try.prog 3 38 R K3_9 16 #[false, false, false, false, false, false, false, false, false, false, false, false, false, false, false, false] [(1, .pointer (some ⟨b1, 0, none⟩)), (3, .int .i64 0), (4, .int .i64 0), (5, .int .i64 0), (6, .int .i64 0)] w31 := by
        intro w31 S31
        refine WA.all [0, 2] (by kernel_rfl) rfl ⟨?_, ?_, trivial⟩
        · skip
          refine WO.set #[true, false, false, false, false, false, false, false, false, false, false, false, false, false, false, false] (by kernel_rfl) ?_
          refine WO.ok (OK.ldBox S31 0 23 23 0 (.agg #[.string nm, .int .i64 st, .int .i64 ln, .bool mo, .bool sg, .int .i64 num, .int .i64 off, .int .i64 den, .int .i64 low, .int .i64 high]) (by kernel_rfl) rfl (by kernel_rfl)) ?_
          refine WA.weaken (env' := [(1, .pointer (some ⟨b1, 0, none⟩)), (3, .int .i64 0), (4, .int .i64 0), (5, .int .i64 0), (6, .int .i64 0), (23, .agg #[.string nm, .int .i64 st, .int .i64 ln, .bool mo, .bool sg, .int .i64 num, .int .i64 off, .int .i64 den, .int .i64 low, .int .i64 high])]) (by kernel_rfl) ?_
          exact W14 w31 S31
        · skip
          refine WO.set #[false, false, true, false, false, false, false, false, false, false, false, false, false, false, false, false] (by kernel_rfl) ?_
          refine WO.ok (OK.ldBox S31 0 25 23 0 (.agg #[.string nm, .int .i64 st, .int .i64 ln, .bool mo, .bool sg, .int .i64 num, .int .i64 off, .int .i64 den, .int .i64 low, .int .i64 high]) (by kernel_rfl) rfl (by kernel_rfl)) ?_
          refine WA.weaken (env' := [(1, .pointer (some ⟨b1, 0, none⟩)), (3, .int .i64 0), (4, .int .i64 0), (5, .int .i64 0), (6, .int .i64 0), (25, .agg #[.string nm, .int .i64 st, .int .i64 ln, .bool mo, .bool sg, .int .i64 num, .int .i64 off, .int .i64 den, .int .i64 low, .int .i64 high])]) (by kernel_rfl) ?_
          exact W15 w31 S31
      refine J.drawAny S19 16 #[false, false, false, false, false, false, false, false, false, false, false, false, false, false, false, false] Try.mixed (by kernel_rfl) (by kernel_rfl) (by kernel_rfl) ?_
      intro w32 S32
      refine WA.weaken (env' := [(1, .pointer (some ⟨b1, 0, none⟩)), (3, .int .i64 0), (4, .int .i64 0), (5, .int .i64 0), (6, .int .i64 0)]) (by kernel_rfl) ?_
      exact W16 w32 S32

theorem seqF_getD (m : Bool) (b : Int) {n k : Nat} (h : k < n) : (seqF m b n).getD k 0 = iterB m b k := by simp [seqF, List.getD, h]
theorem rev_getD {l : List Int} {k : Nat} (h : k < l.length) : l.reverse.getD k 0 = l.getD (l.length - 1 - k) 0 := by simp only [List.getD, List.getElem?_reverse h]
theorem iter_bd (m : Bool) {b : Int} (hb : 0 ≤ b ∧ b ≤ 63) (k : Nat) : 0 ≤ iterB m b k ∧ iterB m b k ≤ 63 + 15 * k ∧ b / 8 ≤ iterB m b k / 8 := by
  induction k with
  | zero => simp [iterB]; omega
  | succ k ih => rw [iterB]; unfold nextB; split <;> (try split) <;> omega
theorem bits_m {nm : ByteArray} {st ln : Int} {mo sg : Bool} {num off den low high : Int} (h : sigB nm st ln mo sg num off den low high = true) (hm : mo = true) : bitsF nm st ln mo sg num off den low high = (seqF true st ln.toNat).reverse := by
  unfold bitsF; rw [if_pos h, if_pos hm]
theorem bits_i {nm : ByteArray} {st ln : Int} {mo sg : Bool} {num off den low high : Int} (h : sigB nm st ln mo sg num off den low high = true) (hm : mo = false) : bitsF nm st ln mo sg num off den low high = seqF false st ln.toNat := by
  unfold bitsF; rw [if_pos h, if_neg (by rw [hm]; decide)]
theorem bits_len {nm : ByteArray} {st ln : Int} {mo sg : Bool} {num off den low high : Int} (h : sigB nm st ln mo sg num off den low high = true) : (bitsF nm st ln mo sg num off den low high).length = ln.toNat := by
  cases mo
  · rw [bits_i h rfl, seqF_length]
  · rw [bits_m h rfl, List.length_reverse, seqF_length]
theorem bits_none {nm : ByteArray} {st ln : Int} {mo sg : Bool} {num off den low high : Int} (h : sigB nm st ln mo sg num off den low high = false) : (bitsF nm st ln mo sg num off den low high).length = 0 := by
  unfold bitsF; rw [if_neg (by rw [h]; decide)]; rfl
theorem m_at {st ln i : Int} (h0 : 0 ≤ i) (h1 : i < ln) : (seqF true st ln.toNat).reverse.getD i.toNat 0 = iterB true st (ln - 1 - i).toNat := by
  rw [rev_getD (by rw [seqF_length]; omega), seqF_length, seqF_getD _ _ (by omega)]; congr 1; omega
theorem rel_m {l : List Int} {st ln i : Int} (hs : 0 ≤ st ∧ st ≤ 63) (hn : 1 ≤ ln ∧ ln ≤ 32) (hl : l = (seqF true st ln.toNat).reverse) (h0 : 0 ≤ i) (h1 : i + 1 < ln) : (0 ≤ l.getD (i + 1).toNat 0 ∧ l.getD (i + 1).toNat 0 ≤ 600) ∧
    (l.getD (i + 1).toNat 0 % 8 = 0 ∧ l.getD i.toNat 0 = l.getD (i + 1).toNat 0 + 15 ∨ l.getD (i + 1).toNat 0 % 8 ≠ 0 ∧ l.getD i.toNat 0 = l.getD (i + 1).toNat 0 - 1) := by
  rw [hl, m_at h0 (by omega), m_at (by omega) (by omega), show (ln - 1 - i).toNat = (ln - 1 - (i + 1)).toNat + 1 by omega, iterB]
  have := iter_bd true hs (ln - 1 - (i + 1)).toNat
  unfold nextB
  rw [if_pos rfl]
  split <;> omega
theorem rel_i {l : List Int} {st ln i : Int} (hs : 0 ≤ st ∧ st ≤ 63) (hn : 1 ≤ ln ∧ ln ≤ 32) (hl : l = seqF false st ln.toNat) (h0 : 0 ≤ i) (h1 : i < ln) : l.getD i.toNat 0 = st + i := by
  rw [hl, seqF_getD _ _ (by omega), iterB_up]; omega
theorem ends_m {l : List Int} {st ln : Int} (hs : 0 ≤ st ∧ st ≤ 63) (hn : 1 ≤ ln ∧ ln ≤ 32) (hl : l = (seqF true st ln.toNat).reverse) : l.getD (ln - 1).toNat 0 = st ∧ 0 ≤ l.getD 0 0 ∧ l.getD 0 0 ≤ 600 := by
  have e := m_at (st := st) (ln := ln) (i := 0) (by omega) (by omega)
  have := iter_bd true hs (ln - 1 - 0).toNat
  rw [hl, m_at (by omega) (by omega), show (ln - 1 - (ln - 1)).toNat = 0 by omega]
  simp only [Int.toNat_zero] at e
  rw [e]
  exact ⟨rfl, by omega, by omega⟩
theorem down_run {st : Int} {n : Nat} (hs : 0 ≤ st) (h8 : st / 8 = (st + n - 1) / 8) : ∀ k : Nat, k < n → iterB true (st + n - 1) k = st + n - 1 - k := by
  intro k
  induction k with
  | zero => intro _; simp [iterB]
  | succ k ih => intro hk; rw [iterB, ih (by omega)]; unfold nextB; rw [if_pos rfl, if_neg (by omega)]; omega
theorem up_run {st : Int} (hs : 0 ≤ st ∧ st ≤ 63) : ∀ k : Nat, iterB true st k / 8 = st / 8 → iterB true st k = st - k := by
  intro k
  induction k with
  | zero => intro _; simp [iterB]
  | succ k ih =>
    intro h
    have hb := iter_bd true hs k
    rw [iterB] at h ⊢
    unfold nextB at h ⊢
    rw [if_pos rfl] at h ⊢
    split at h
    · omega
    · rename_i h2; rw [if_neg h2, ih (by omega)]; omega
theorem same_i {l : List Int} {st ln : Int} (hs : 0 ≤ st ∧ st ≤ 63) (hn : 1 ≤ ln ∧ ln ≤ 32) (hl : l = seqF false st ln.toNat) (h : l.getD 0 0 / 8 = l.getD (ln - 1).toNat 0 / 8) : (seqF true (l.getD (ln - 1).toNat 0) ln.toNat).reverse = l := by
  have e1 := rel_i hs hn hl (i := 0) (by omega) (by omega)
  have e2 := rel_i hs hn hl (i := ln - 1) (by omega) (by omega)
  simp only [Int.toNat_zero] at e1
  rw [e1, e2] at h
  have hd := down_run (st := st) (n := ln.toNat) hs.1 (by rw [show st + (ln.toNat : Int) - 1 = st + (ln - 1) by omega]; omega)
  rw [e2]
  refine list_ext_getD (by rw [hl]; simp [seqF_length]) fun k hk => ?_
  simp only [List.length_reverse, seqF_length] at hk
  rw [rev_getD (by rw [seqF_length]; exact hk), seqF_length, seqF_getD _ _ (by omega)]
  have e3 := hd (ln.toNat - 1 - k) (by omega)
  rw [show st + (ln - 1) = st + (ln.toNat : Int) - 1 by omega, e3]
  have e4 := rel_i hs hn hl (i := k) (by omega) (by omega)
  rw [Int.toNat_natCast] at e4
  rw [e4]; omega
theorem same_m {l : List Int} {st ln : Int} (hs : 0 ≤ st ∧ st ≤ 63) (hn : 1 ≤ ln ∧ ln ≤ 32) (hl : l = (seqF true st ln.toNat).reverse) (h : l.getD 0 0 / 8 = l.getD (ln - 1).toNat 0 / 8) : seqF false (l.getD 0 0) ln.toNat = l := by
  have e0 : ∀ i : Int, 0 ≤ i → i < ln → l.getD i.toNat 0 = iterB true st (ln - 1 - i).toNat := fun i h0 h1 => by rw [hl]; exact m_at h0 h1
  have e1 := e0 0 (by omega) (by omega)
  have e2 := e0 (ln - 1) (by omega) (by omega)
  rw [show (ln - 1 - (ln - 1)).toNat = 0 by omega, iterB] at e2
  simp only [Int.toNat_zero] at e1
  rw [e2] at h
  have e3 := up_run hs (ln - 1 - 0).toNat (by rw [← e1]; exact h)
  have hall : ∀ j k : Nat, k = (ln - 1 - 0).toNat → j ≤ k → iterB true st j = st - j := by
    intro j k hk hj
    refine up_run hs j ?_
    have a1 := (iter_bd true hs j).2.2
    -- the byte only grows
    have mono : ∀ d : Nat, iterB true st j / 8 ≤ iterB true st (j + d) / 8 := by
      intro d
      induction d with
      | zero => exact Int.le_refl _
      | succ d ih =>
        rw [Nat.add_succ, iterB]; unfold nextB; rw [if_pos rfl]
        have := iter_bd true hs (j + d)
        split <;> omega
    have a2 := mono (k - j)
    rw [show j + (k - j) = k by omega, hk, ← e1, h] at a2
    omega
  refine list_ext_getD (by rw [hl]; simp [seqF_length]) fun k hk => ?_
  rw [seqF_length] at hk
  rw [seqF_getD _ _ hk, iterB_up, e1, e3]
  have e4 := e0 k (by omega) (by omega)
  rw [Int.toNat_natCast] at e4
  rw [e4, hall _ _ rfl (by omega)]; omega
theorem lim_sum {ln : Int} (sg : Bool) (h : 1 ≤ ln ∧ ln ≤ 32) : highF ln sg - lowF ln sg + 1 = 2 ^ ln.toNat ∧ (sg = true → lowF ln sg + highF ln sg = -1) ∧ (sg = false → lowF ln sg = 0) := by
  have e : (2 : Int) ^ ln.toNat = 2 * 2 ^ (ln - 1).toNat := by
    rw [show ln.toNat = (ln - 1).toNat + 1 by omega, Int.pow_succ]; omega
  cases sg <;> simp only [lowF, highF, if_true, if_false, Bool.false_eq_true, reduceCtorEq, false_implies, true_implies, forall_const, and_true, true_and] <;> omega
theorem other_same {nm : ByteArray} {st ln st2 : Int} {mo m2 sg : Bool} {num off den low high : Int} {l : List Int} (h : sigB nm st ln mo sg num off den low high = true) (hl : l = bitsF nm st ln mo sg num off den low high)
    (h8 : l.getD 0 0 / 8 = l.getD (ln - 1).toNat 0 / 8) (hm : m2 = !mo) (hst : st2 = if mo then l.getD 0 0 else l.getD (ln - 1).toNat 0) (hb : 0 ≤ st2 ∧ st2 ≤ 63) : bitsF nm st2 ln m2 sg num off den low high = l := by
  obtain ⟨h1, h2, h3⟩ := sigB_facts h
  have h' : sigB nm st2 ln m2 sg num off den low high = true := by
    have e1 : inB st2 0 63 = true := inB_iff.2 hb
    have e2 : inB st 0 63 = true := inB_iff.2 h2
    unfold sigB at h ⊢
    rw [e2] at h; rw [e1]; exact h
  cases mo
  · simp only [Bool.false_eq_true, if_false, if_true, Bool.not_false, Bool.not_true] at hst hm
    subst hst hm
    rw [bits_m h' rfl]
    exact same_i h2 h1 (by rw [hl, bits_i h rfl]) h8
  · simp only [Bool.false_eq_true, if_false, if_true, Bool.not_false, Bool.not_true] at hst hm
    subst hst hm
    rw [bits_i h' rfl]
    exact same_m h2 h1 (by rw [hl, bits_m h rfl]) h8

end Go.Proofs.Ytpmkdhdcejcpfaa
