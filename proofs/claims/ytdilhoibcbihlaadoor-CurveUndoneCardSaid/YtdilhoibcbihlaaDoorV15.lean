/- Walks of functions of this seat, printed by a program over the engine. Conditions: as each theorem says. -/
import Derived.Test.YtdilhoibcbihlaaDoorV14
namespace Go.Proofs.YtdilhoibcbihlaaDoor
open Go.Eng Go.RowKit
set_option linter.unusedSimpArgs false
set_option linter.unusedVariables false
theorem hb29 : HasBody Tryd.prog 29 := fun _ _ => by kernel_rfl
noncomputable def K29_0 : List Item := adv 2 [] (bodyOf Tryd.f29)
noncomputable def K29_1 : List Item := adv 6 [] (popK (popK K29_0))
noncomputable def K29_2 : List Item := adv 2 [] (popK K29_1)
noncomputable def K29_3 : List Item := adv 3 [] (popK K29_2)
noncomputable def K29_4 : List Item := adv 1 [] K29_3
noncomputable def K29_5 : List Item := adv 2 [] (popK K29_4)
noncomputable def K29_6 : List Item := adv 4 [] (popK K29_5)
noncomputable def K29_7 : List Item := adv 9 [false] K29_6
noncomputable def K29_8 : List Item := adv 5 [] K29_7
noncomputable def K29_9 : List Item := adv 3 [] (popK K29_8)
noncomputable def K29_10 : List Item := adv 5 [true] K29_9
noncomputable def K29_11 : List Item := adv 6 [false] (rRest K29_10)
noncomputable def K29_12 : List Item := adv 5 [true] (rRest K29_10)
noncomputable def K29_13 : List Item := adv 9 [false] K29_9
noncomputable def K29_14 : List Item := adv 5 [] K29_13
noncomputable def K29_15 : List Item := adv 3 [] (popK K29_14)
noncomputable def K29_16 : List Item := adv 5 [true] K29_15
noncomputable def K29_17 : List Item := adv 6 [false] (rRest K29_16)
noncomputable def K29_18 : List Item := adv 5 [true] (rRest K29_16)
noncomputable def K29_19 : List Item := adv 6 [false] K29_15
noncomputable def K29_20 : List Item := adv 5 [true] K29_6
noncomputable def K29_21 : List Item := adv 14 [true] K29_3
set_option maxRecDepth 20000 in
set_option maxHeartbeats 20000000 in
theorem same_any (la : Option Addr) (na ca : Nat) (xa : List Int) (lb : Option Addr) (nb cb : Nat) (xb : List Int) (lc : Option Addr) (nc cc : Nat) (xc : List Int) (ld : Option Addr) (nd cd : Nat) (xd : List Int) (w : World) (ha : Ints w la na xa) (hb : Ints w lb nb xb) (hc : Ints w lc nc xc) (hd : Ints w ld nd xd) (hla : na ≤ 9223372036854775807) (hlb : nb ≤ 9223372036854775807) : Ret Tryd.prog 29 #[.agg #[.slice la na ca, .slice lb nb cb], .agg #[.slice lc nc cc, .slice ld nd cd]] w (fun v w' => v = .bool ((xa == xc) && (xb == xd)) ∧ Sep w [] w') := by
  have S0 := Sep.refl w
  refine Ret.named fun R hR => ?_
  refine Ret.of_J (N := 59) [(0, .agg #[.slice la na ca, .slice lb nb cb]), (1, .agg #[.slice lc nc cc, .slice ld nd cd])] Tryd.func29 rfl rfl (Nat.le_of_ble_eq_true (by kernel_rfl)) (by kernel_rfl) ?_
  have hla_ := ha.len_eq
  have hlb_ := hb.len_eq
  have hlc_ := hc.len_eq
  have hld_ := hd.len_eq
  refine J.run 2 K29_0 [(0, .agg #[.slice la na ca, .slice lb nb cb]), (1, .agg #[.slice lc nc cc, .slice ld nd cd])] w (by kernel_rfl) ?_
  refine J.new S0 2 [.slice la na ca, .slice lb nb cb] 24 (by kernel_rfl) ?_
  intro b1 w1 S1
  refine J.new S1 3 [.slice lc nc cc, .slice ld nd cd] 24 (by kernel_rfl) ?_
  intro b2 w2 S2
  refine J.run 6 K29_1 [(7, .pointer (some ⟨b1, 0, none⟩)), (3, .pointer (some ⟨b2, 0, none⟩)), (2, .pointer (some ⟨b1, 0, none⟩))] w2 (by kernel_rfl) ?_
  refine J.ok (OK.ldBox S2 1 8 22 0 (.slice la na ca) (by kernel_rfl) rfl (by kernel_rfl)) ?_
  refine J.run 2 K29_2 [(10, .pointer (some ⟨b2, 0, none⟩)), (9, .int .i64 (na : Int)), (3, .pointer (some ⟨b2, 0, none⟩)), (2, .pointer (some ⟨b1, 0, none⟩))] w2 (by kernel_rfl) ?_
  refine J.ok (OK.ldBox S2 0 11 22 0 (.slice lc nc cc) (by kernel_rfl) rfl (by kernel_rfl)) ?_
  refine J.run 3 K29_3 [(14, .bool ((na : Int) != (nc : Int))), (3, .pointer (some ⟨b2, 0, none⟩)), (2, .pointer (some ⟨b1, 0, none⟩))] w2 (by kernel_rfl) ?_
  by_cases fk1 : (na : Int) = (nc : Int)
  · skip
    refine J.head (.bool false) (congrArg Value.bool (bne_eq_false_iff_eq.2 fk1)) ?_
    refine J.run 1 K29_4 [(15, .pointer (some ⟨b1, 1, none⟩)), (14, .bool false), (3, .pointer (some ⟨b2, 0, none⟩)), (2, .pointer (some ⟨b1, 0, none⟩))] w2 (by kernel_rfl) ?_
    refine J.ok (OK.ldBox S2 1 16 22 1 (.slice lb nb cb) (by kernel_rfl) rfl (by kernel_rfl)) ?_
    refine J.run 2 K29_5 [(18, .pointer (some ⟨b2, 1, none⟩)), (17, .int .i64 (nb : Int)), (14, .bool false), (3, .pointer (some ⟨b2, 0, none⟩)), (2, .pointer (some ⟨b1, 0, none⟩))] w2 (by kernel_rfl) ?_
    refine J.ok (OK.ldBox S2 0 19 22 1 (.slice ld nd cd) (by kernel_rfl) rfl (by kernel_rfl)) ?_
    refine J.run 4 K29_6 [(22, .bool ((nb : Int) != (nd : Int))), (3, .pointer (some ⟨b2, 0, none⟩)), (2, .pointer (some ⟨b1, 0, none⟩))] w2 (by kernel_rfl) ?_
    by_cases fk2 : (nb : Int) = (nd : Int)
    · skip
      refine J.head (.bool false) (congrArg Value.bool (bne_eq_false_iff_eq.2 fk2)) ?_
      refine J.run 9 K29_7 [(5, .int .i64 0), (3, .pointer (some ⟨b2, 0, none⟩)), (2, .pointer (some ⟨b1, 0, none⟩))] w2 (by kernel_rfl) ?_
      have L29_1 : ∀ (mm_ : Nat) (i : Int) (w3 : World), (0 ≤ i) → (i ≤ (na : Int)) → (∀ j, j < (i).toNat → xa.getD j 0 = xc.getD j 0) → Sep w [box b2 [.slice lc nc cc, .slice ld nd cd] 24, box b1 [.slice la na ca, .slice lb nb cb] 24] w3 → ((na : Int) - i).toNat = mm_ → J Tryd.prog 29 59 R K29_7 [(5, .int .i64 i), (3, .pointer (some ⟨b2, 0, none⟩)), (2, .pointer (some ⟨b1, 0, none⟩))] w3 := by
        intro mm1
        induction mm1 using Nat.strongRecOn with
        | _ mm1 ih1 =>
        intro i w3 h0 h1 hq S3 hm1
        refine J.run 5 K29_8 [(24, .pointer (some ⟨b1, 0, none⟩)), (23, .int .i64 i), (5, .int .i64 i), (3, .pointer (some ⟨b2, 0, none⟩)), (2, .pointer (some ⟨b1, 0, none⟩))] w3 (by kernel_rfl) ?_
        refine J.ok (OK.ldBox S3 1 25 22 0 (.slice la na ca) (by kernel_rfl) rfl (by kernel_rfl)) ?_
        refine J.run 3 K29_9 [(27, .bool (decide (i < (na : Int)))), (5, .int .i64 i), (3, .pointer (some ⟨b2, 0, none⟩)), (2, .pointer (some ⟨b1, 0, none⟩))] w3 (by kernel_rfl) ?_
        by_cases fk3 : i < (na : Int)
        · skip
          refine J.head (.bool true) (congrArg Value.bool (decide_eq_true fk3)) ?_
          refine J.run 5 K29_10 [(5, .int .i64 i), (3, .pointer (some ⟨b2, 0, none⟩)), (2, .pointer (some ⟨b1, 0, none⟩))] w3 (by kernel_rfl) ?_
          obtain ⟨p1, hp1, hc1⟩ := ha.at 0 (i).toNat (by omega)
          obtain ⟨p2, hp2, hc2⟩ := hc.at 0 (i).toNat (by omega)
          refine J.drawStill S3 11 Tryd.mixed (by kernel_rfl) (by kernel_rfl) (by kernel_rfl) ?_
          intro w4 S4
          refine SL.ok (by decide) (OK.run 30 (.pointer (some ⟨b1, 0, none⟩)) (by kernel_rfl)) ?_
          refine SL.ok (by decide) (OK.ldBox S4 1 31 22 0 (.slice la na ca) (by kernel_rfl) rfl (by kernel_rfl)) ?_
          refine SL.ok (by decide) (OK.run 32 (.int .i64 i) (by kernel_rfl)) ?_
          refine SL.ok (by decide) (OK.index 33 22 1 la p1 na (i).toNat i (p1.add (i).toNat) (by kernel_rfl) (by kernel_rfl) hp1 (by omega) (by omega) (by rw [Nat.mul_one])) ?_
          refine SL.ok (by decide) (OK.ldCell 34 3 (p1.add (i).toNat) (.int .i64 (xa.getD (i).toNat 0)) (by kernel_rfl) (by kernel_rfl) (S4.cell hc1)) ?_
          refine SL.ok (by decide) (OK.run 35 (.pointer (some ⟨b2, 0, none⟩)) (by kernel_rfl)) ?_
          refine SL.ok (by decide) (OK.ldBox S4 0 36 22 0 (.slice lc nc cc) (by kernel_rfl) rfl (by kernel_rfl)) ?_
          refine SL.ok (by decide) (OK.run 37 (.int .i64 i) (by kernel_rfl)) ?_
          refine SL.ok (by decide) (OK.index 38 22 1 lc p2 nc (i).toNat i (p2.add (i).toNat) (by kernel_rfl) (by kernel_rfl) hp2 (by omega) (by omega) (by rw [Nat.mul_one])) ?_
          refine SL.ok (by decide) (OK.ldCell 39 3 (p2.add (i).toNat) (.int .i64 (xc.getD (i).toNat 0)) (by kernel_rfl) (by kernel_rfl) (S4.cell hc2)) ?_
          refine SL.ok (by decide) (OK.run 40 (.bool ((xa.getD (i).toNat 0) != (xc.getD (i).toNat 0))) (by kernel_rfl)) ?_
          refine SL.done ?_
          refine TL.done (by kernel_rfl) ?_
          refine J.run 0 (rRest K29_10) [(40, .bool ((xa.getD (i).toNat 0) != (xc.getD (i).toNat 0))), (5, .int .i64 i), (3, .pointer (some ⟨b2, 0, none⟩)), (2, .pointer (some ⟨b1, 0, none⟩))] w4 (by kernel_rfl) ?_
          by_cases fk4 : (xa.getD (i).toNat 0) = (xc.getD (i).toNat 0)
          · skip
            refine J.head (.bool false) (congrArg Value.bool (bne_eq_false_iff_eq.2 fk4)) ?_
            refine J.run 6 K29_11 [(29, .int .i64 (IntKind.wrap .i64 (i + 1))), (3, .pointer (some ⟨b2, 0, none⟩)), (2, .pointer (some ⟨b1, 0, none⟩))] w4 (by kernel_rfl) ?_
            refine J.head (.int .i64 (i + 1)) (congrArg (Value.int .i64) (IntWalk.i64_in _ (by omega))) ?_
            refine J.run 3 K29_7 [(5, .int .i64 (i + 1)), (3, .pointer (some ⟨b2, 0, none⟩)), (2, .pointer (some ⟨b1, 0, none⟩))] w4 (by kernel_rfl) ?_
            refine J.run 0 K29_7 [(5, .int .i64 (i + 1)), (3, .pointer (some ⟨b2, 0, none⟩)), (2, .pointer (some ⟨b1, 0, none⟩))] w4 (by kernel_rfl) ?_
            exact ih1 _ (show ((na : Int) - (i + 1)).toNat < mm1 from by omega) (i + 1) w4 (by omega) (by omega) (all_step (q := fun j => xa.getD j 0 = xc.getD j 0) h0 hq (by omega)) S4 rfl
          · skip
            refine J.head (.bool true) (congrArg Value.bool (bne_iff_ne.2 fk4)) ?_
            refine J.run 5 K29_12 [(4, .bool false)] w4 (by kernel_rfl) ?_
            refine J.ret Tryd.f29 [.bool false] Tryd.func29 ⟨by kernel_rfl, trivial⟩ ?_
            refine hR _ _ ?_
            exact ⟨congrArg Value.bool (same_a (i := i.toNat) (by omega)).symm, S4.nil⟩
        · skip
          refine J.head (.bool false) (congrArg Value.bool (decide_eq_false fk3)) ?_
          refine J.run 9 K29_13 [(6, .int .i64 0), (3, .pointer (some ⟨b2, 0, none⟩)), (2, .pointer (some ⟨b1, 0, none⟩))] w3 (by kernel_rfl) ?_
          have L29_2 : ∀ (mm_ : Nat) (k : Int) (w5 : World), (0 ≤ k) → (k ≤ (nb : Int)) → (∀ j, j < (k).toNat → xb.getD j 0 = xd.getD j 0) → Sep w [box b2 [.slice lc nc cc, .slice ld nd cd] 24, box b1 [.slice la na ca, .slice lb nb cb] 24] w5 → ((nb : Int) - k).toNat = mm_ → J Tryd.prog 29 59 R K29_13 [(6, .int .i64 k), (3, .pointer (some ⟨b2, 0, none⟩)), (2, .pointer (some ⟨b1, 0, none⟩))] w5 := by
            intro mm2
            induction mm2 using Nat.strongRecOn with
            | _ mm2 ih2 =>
            intro k w5 k0 k1 hp S5 hm2
            refine J.run 5 K29_14 [(42, .pointer (some ⟨b1, 1, none⟩)), (41, .int .i64 k), (6, .int .i64 k), (3, .pointer (some ⟨b2, 0, none⟩)), (2, .pointer (some ⟨b1, 0, none⟩))] w5 (by kernel_rfl) ?_
            refine J.ok (OK.ldBox S5 1 43 22 1 (.slice lb nb cb) (by kernel_rfl) rfl (by kernel_rfl)) ?_
            refine J.run 3 K29_15 [(45, .bool (decide (k < (nb : Int)))), (6, .int .i64 k), (3, .pointer (some ⟨b2, 0, none⟩)), (2, .pointer (some ⟨b1, 0, none⟩))] w5 (by kernel_rfl) ?_
            by_cases fk5 : k < (nb : Int)
            · skip
              refine J.head (.bool true) (congrArg Value.bool (decide_eq_true fk5)) ?_
              refine J.run 5 K29_16 [(6, .int .i64 k), (3, .pointer (some ⟨b2, 0, none⟩)), (2, .pointer (some ⟨b1, 0, none⟩))] w5 (by kernel_rfl) ?_
              obtain ⟨p3, hp3, hc3⟩ := hb.at 0 (k).toNat (by omega)
              obtain ⟨p4, hp4, hc4⟩ := hd.at 0 (k).toNat (by omega)
              refine J.drawStill S5 11 Tryd.mixed (by kernel_rfl) (by kernel_rfl) (by kernel_rfl) ?_
              intro w6 S6
              refine SL.ok (by decide) (OK.run 48 (.pointer (some ⟨b1, 1, none⟩)) (by kernel_rfl)) ?_
              refine SL.ok (by decide) (OK.ldBox S6 1 49 22 1 (.slice lb nb cb) (by kernel_rfl) rfl (by kernel_rfl)) ?_
              refine SL.ok (by decide) (OK.run 50 (.int .i64 k) (by kernel_rfl)) ?_
              refine SL.ok (by decide) (OK.index 51 22 1 lb p3 nb (k).toNat k (p3.add (k).toNat) (by kernel_rfl) (by kernel_rfl) hp3 (by omega) (by omega) (by rw [Nat.mul_one])) ?_
              refine SL.ok (by decide) (OK.ldCell 52 3 (p3.add (k).toNat) (.int .i64 (xb.getD (k).toNat 0)) (by kernel_rfl) (by kernel_rfl) (S6.cell hc3)) ?_
              refine SL.ok (by decide) (OK.run 53 (.pointer (some ⟨b2, 1, none⟩)) (by kernel_rfl)) ?_
              refine SL.ok (by decide) (OK.ldBox S6 0 54 22 1 (.slice ld nd cd) (by kernel_rfl) rfl (by kernel_rfl)) ?_
              refine SL.ok (by decide) (OK.run 55 (.int .i64 k) (by kernel_rfl)) ?_
              refine SL.ok (by decide) (OK.index 56 22 1 ld p4 nd (k).toNat k (p4.add (k).toNat) (by kernel_rfl) (by kernel_rfl) hp4 (by omega) (by omega) (by rw [Nat.mul_one])) ?_
              refine SL.ok (by decide) (OK.ldCell 57 3 (p4.add (k).toNat) (.int .i64 (xd.getD (k).toNat 0)) (by kernel_rfl) (by kernel_rfl) (S6.cell hc4)) ?_
              refine SL.ok (by decide) (OK.run 58 (.bool ((xb.getD (k).toNat 0) != (xd.getD (k).toNat 0))) (by kernel_rfl)) ?_
              refine SL.done ?_
              refine TL.done (by kernel_rfl) ?_
              refine J.run 0 (rRest K29_16) [(58, .bool ((xb.getD (k).toNat 0) != (xd.getD (k).toNat 0))), (6, .int .i64 k), (3, .pointer (some ⟨b2, 0, none⟩)), (2, .pointer (some ⟨b1, 0, none⟩))] w6 (by kernel_rfl) ?_
              by_cases fk6 : (xb.getD (k).toNat 0) = (xd.getD (k).toNat 0)
              · skip
                refine J.head (.bool false) (congrArg Value.bool (bne_eq_false_iff_eq.2 fk6)) ?_
                refine J.run 6 K29_17 [(47, .int .i64 (IntKind.wrap .i64 (k + 1))), (3, .pointer (some ⟨b2, 0, none⟩)), (2, .pointer (some ⟨b1, 0, none⟩))] w6 (by kernel_rfl) ?_
                refine J.head (.int .i64 (k + 1)) (congrArg (Value.int .i64) (IntWalk.i64_in _ (by omega))) ?_
                refine J.run 3 K29_13 [(6, .int .i64 (k + 1)), (3, .pointer (some ⟨b2, 0, none⟩)), (2, .pointer (some ⟨b1, 0, none⟩))] w6 (by kernel_rfl) ?_
                refine J.run 0 K29_13 [(6, .int .i64 (k + 1)), (3, .pointer (some ⟨b2, 0, none⟩)), (2, .pointer (some ⟨b1, 0, none⟩))] w6 (by kernel_rfl) ?_
                exact ih2 _ (show ((nb : Int) - (k + 1)).toNat < mm2 from by omega) (k + 1) w6 (by omega) (by omega) (all_step (q := fun j => xb.getD j 0 = xd.getD j 0) k0 hp (by omega)) S6 rfl
              · skip
                refine J.head (.bool true) (congrArg Value.bool (bne_iff_ne.2 fk6)) ?_
                refine J.run 5 K29_18 [(4, .bool false)] w6 (by kernel_rfl) ?_
                refine J.ret Tryd.f29 [.bool false] Tryd.func29 ⟨by kernel_rfl, trivial⟩ ?_
                refine hR _ _ ?_
                exact ⟨congrArg Value.bool (same_b (i := k.toNat) (by omega)).symm, S6.nil⟩
            · skip
              refine J.head (.bool false) (congrArg Value.bool (decide_eq_false fk5)) ?_
              refine J.run 6 K29_19 [(4, .bool true)] w5 (by kernel_rfl) ?_
              refine J.ret Tryd.f29 [.bool true] Tryd.func29 ⟨by kernel_rfl, trivial⟩ ?_
              refine hR _ _ ?_
              exact ⟨congrArg Value.bool (same_yes (list_ext_getD (by omega) fun j hj => hq j (by omega)) (list_ext_getD (by omega) fun j hj => hp j (by omega))).symm, S5.nil⟩
          exact L29_2 _ 0 w3 (by omega) (by omega) (by intro j hj; simp at hj) S3 rfl
      exact L29_1 _ 0 w2 (by omega) (by omega) (by intro j hj; simp at hj) S2 rfl
    · skip
      refine J.head (.bool true) (congrArg Value.bool (bne_iff_ne.2 fk2)) ?_
      refine J.run 5 K29_20 [(4, .bool false)] w2 (by kernel_rfl) ?_
      refine J.ret Tryd.f29 [.bool false] Tryd.func29 ⟨by kernel_rfl, trivial⟩ ?_
      refine hR _ _ ?_
      exact ⟨congrArg Value.bool (same_no (by omega)).symm, S2.nil⟩
  · skip
    refine J.head (.bool true) (congrArg Value.bool (bne_iff_ne.2 fk1)) ?_
    refine J.run 14 K29_21 [(4, .bool false)] w2 (by kernel_rfl) ?_
    refine J.ret Tryd.f29 [.bool false] Tryd.func29 ⟨by kernel_rfl, trivial⟩ ?_
    refine hR _ _ ?_
    exact ⟨congrArg Value.bool (same_no (by omega)).symm, S2.nil⟩

end Go.Proofs.YtdilhoibcbihlaaDoor
