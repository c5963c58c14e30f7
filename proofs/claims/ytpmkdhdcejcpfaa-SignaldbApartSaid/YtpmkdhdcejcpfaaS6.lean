/- Walks of functions of this seat, printed by a program over the engine. Conditions: as each theorem says. -/
import Derived.Test.YtpmkdhdcejcpfaaS5
namespace Go.Proofs.Ytpmkdhdcejcpfaa
open Go.Eng Go.RowKit
set_option linter.unusedSimpArgs false
set_option linter.unusedVariables false
theorem hd_len {d : Db} {k : Nat} (h : headErr d k = 0) : 1 ≤ (d.gFrames_l.getD k frm0).gLength ∧ (d.gFrames_l.getD k frm0).gLength ≤ 8 := by
  unfold headErr at h
  split at h
  · omega
  split at h
  · omega
  rename_i h2
  cases hx : inB (d.gFrames_l.getD k frm0).gLength 1 8 with
  | true => exact inB_iff.1 hx
  | false => exact absurd (show hdBad (d.gFrames_l.getD k frm0) = true by unfold hdBad; rw [hx]; simp) h2
theorem hb15 : HasBody Try.prog 15 := fun _ _ => by kernel_rfl
noncomputable def K15_0 : List Item := adv 2 [] (bodyOf Try.f15)
noncomputable def K15_1 : List Item := adv 7 [] (popK K15_0)
noncomputable def K15_2 : List Item := adv 3 [] (popK K15_1)
noncomputable def K15_3 : List Item := adv 6 [true] K15_2
noncomputable def K15_4 : List Item := adv 9 [false] K15_2
noncomputable def K15_5 : List Item := adv 5 [] K15_4
noncomputable def K15_6 : List Item := adv 3 [] (popK K15_5)
noncomputable def K15_7 : List Item := adv 7 [true] K15_6
noncomputable def K15_8 : List Item := adv 1 [] (popK K15_7)
noncomputable def K15_9 : List Item := adv 7 [] (popK K15_8)
noncomputable def K15_10 : List Item := adv 8 [false] K15_9
noncomputable def K15_11 : List Item := adv 5 [] K15_10
noncomputable def K15_12 : List Item := adv 1 [] (popK K15_11)
noncomputable def K15_13 : List Item := adv 1 [] (popK K15_12)
noncomputable def K15_14 : List Item := adv 3 [] (popK K15_13)
noncomputable def K15_15 : List Item := adv 7 [true] K15_14
noncomputable def K15_16 : List Item := adv 1 [] (popK K15_15)
noncomputable def K15_17 : List Item := adv 1 [] (popK (popK K15_16))
noncomputable def K15_18 : List Item := adv 7 [] (popK K15_17)
noncomputable def K15_19 : List Item := adv 6 [false] K15_18
noncomputable def K15_20 : List Item := adv 4 [true] K15_18
noncomputable def K15_21 : List Item := adv 1 [] (popK K15_20)
noncomputable def K15_22 : List Item := adv 1 [] (popK K15_21)
noncomputable def K15_23 : List Item := adv 1 [] (popK K15_22)
noncomputable def K15_24 : List Item := adv 1 [] (popK K15_23)
noncomputable def K15_25 : List Item := adv 4 [] (popK K15_24)
noncomputable def K15_26 : List Item := adv 6 [false] K15_14
noncomputable def K15_27 : List Item := adv 4 [true] K15_9
noncomputable def K15_28 : List Item := adv 1 [] (popK K15_27)
noncomputable def K15_29 : List Item := adv 1 [] (popK K15_28)
noncomputable def K15_30 : List Item := adv 4 [] (popK K15_29)
noncomputable def K15_31 : List Item := adv 7 [false] K15_6
set_option maxRecDepth 20000 in
set_option maxHeartbeats 20000000 in
theorem rfault_any (d : Db) (w : World) (hd : dbQ w d) : Ret Try.prog 15 #[.agg #[.slice d.gFrames_a d.gFrames_n d.gFrames_c]] w (fun v w' => v = .tuple #[.string (faultF d).1, .int .i64 (faultF d).2] ∧ Sep w [] w') := by
  have S0 := Sep.refl w
  refine Ret.named fun R hR => ?_
  refine Ret.of_J (N := 62) [(0, .agg #[.slice d.gFrames_a d.gFrames_n d.gFrames_c])] Try.func15 rfl rfl (Nat.le_of_ble_eq_true (by kernel_rfl)) (by kernel_rfl) ?_
  obtain ⟨q1, q2, q3, _⟩ := id hd
  have ql1 := q2.len_eq
  refine J.run 2 K15_0 [(0, .agg #[.slice d.gFrames_a d.gFrames_n d.gFrames_c])] w (by kernel_rfl) ?_
  refine J.new S0 1 [.slice d.gFrames_a d.gFrames_n d.gFrames_c] 33 (by kernel_rfl) ?_
  intro b1 w1 S1
  refine J.run 7 K15_1 [(8, .pointer (some ⟨b1, 0, none⟩)), (1, .pointer (some ⟨b1, 0, none⟩))] w1 (by kernel_rfl) ?_
  refine J.ok (OK.ldBox S1 0 9 31 0 (.slice d.gFrames_a d.gFrames_n d.gFrames_c) (by kernel_rfl) rfl (by kernel_rfl)) ?_
  refine J.run 3 K15_2 [(11, .bool (decide ((d.gFrames_n : Int) > 64))), (1, .pointer (some ⟨b1, 0, none⟩))] w1 (by kernel_rfl) ?_
  by_cases fk1 : (d.gFrames_n : Int) > 64
  · skip
    refine J.head (.bool true) (congrArg Value.bool (decide_eq_true fk1)) ?_
    refine J.run 6 K15_3 [(3, .int .i64 5), (2, .string ByteArray.empty)] w1 (by kernel_rfl) ?_
    refine J.ret Try.f15 [.string ByteArray.empty, .int .i64 5] Try.func15 ⟨by kernel_rfl, by kernel_rfl, trivial⟩ ?_
    refine hR _ _ ?_
    have r0 := fault_full (d := d) (by omega)
    exact ⟨by rw [tup_two, r0], S1.nil⟩
  · skip
    refine J.head (.bool false) (congrArg Value.bool (decide_eq_false fk1)) ?_
    refine J.run 9 K15_4 [(4, .int .i64 0), (1, .pointer (some ⟨b1, 0, none⟩))] w1 (by kernel_rfl) ?_
    have L15_1 : ∀ (mm_ : Nat) (i : Int) (w2 : World), (0 ≤ i) → (i ≤ (d.gFrames_n : Int)) → (∀ j, j < (i).toNat → (frmR d j).2 = 0) → Sep w [box b1 [.slice d.gFrames_a d.gFrames_n d.gFrames_c] 33] w2 → ((d.gFrames_n : Int) - i).toNat = mm_ → J Try.prog 15 62 R K15_4 [(4, .int .i64 i), (1, .pointer (some ⟨b1, 0, none⟩))] w2 := by
      intro mm1
      induction mm1 using Nat.strongRecOn with
      | _ mm1 ih1 =>
      intro i w2 h0 h1 hq S2 hm1
      refine J.run 5 K15_5 [(13, .pointer (some ⟨b1, 0, none⟩)), (12, .int .i64 i), (4, .int .i64 i), (1, .pointer (some ⟨b1, 0, none⟩))] w2 (by kernel_rfl) ?_
      refine J.ok (OK.ldBox S2 0 14 31 0 (.slice d.gFrames_a d.gFrames_n d.gFrames_c) (by kernel_rfl) rfl (by kernel_rfl)) ?_
      refine J.run 3 K15_6 [(16, .bool (decide (i < (d.gFrames_n : Int)))), (4, .int .i64 i), (1, .pointer (some ⟨b1, 0, none⟩))] w2 (by kernel_rfl) ?_
      by_cases fk2 : i < (d.gFrames_n : Int)
      · skip
        refine J.head (.bool true) (congrArg Value.bool (decide_eq_true fk2)) ?_
        refine J.run 7 K15_7 [(4, .int .i64 i), (1, .pointer (some ⟨b1, 0, none⟩))] w2 (by kernel_rfl) ?_
        refine J.ok (OK.ldBox S2 0 19 33 0 (.agg #[.slice d.gFrames_a d.gFrames_n d.gFrames_c]) (by kernel_rfl) rfl (by kernel_rfl)) ?_
        refine J.run 1 K15_8 [(20, .int .i64 i), (19, .agg #[.slice d.gFrames_a d.gFrames_n d.gFrames_c]), (4, .int .i64 i), (1, .pointer (some ⟨b1, 0, none⟩))] w2 (by kernel_rfl) ?_
        refine J.callF 21 32 #[.agg #[.slice d.gFrames_a d.gFrames_n d.gFrames_c], .int .i64 i] hb32 (by kernel_rfl) (head_any d i _ (dbQ_sep hd S2) (by omega)) ?_
        rintro _ w3 ⟨rfl, T1⟩
        have S3 : Sep w [box b1 [.slice d.gFrames_a d.gFrames_n d.gFrames_c] 33] w3 := S2.trans T1
        clear T1 S2
        refine J.run 7 K15_9 [(23, .bool ((headErr d (i).toNat) != 0)), (5, .int .i64 (headErr d (i).toNat)), (4, .int .i64 i), (1, .pointer (some ⟨b1, 0, none⟩))] w3 (by kernel_rfl) ?_
        by_cases fk3 : (headErr d (i).toNat) = 0
        · skip
          refine J.head (.bool false) (congrArg Value.bool (bne_eq_false_iff_eq.2 fk3)) ?_
          have hhl := hd_len fk3
          refine J.run 8 K15_10 [(6, .int .i64 0), (4, .int .i64 i), (1, .pointer (some ⟨b1, 0, none⟩))] w3 (by kernel_rfl) ?_
          have L15_2 : ∀ (mm_ : Nat) (k : Int) (w4 : World), (0 ≤ k) → (k ≤ ((d.gFrames_l.getD (i).toNat frm0).gSignals_n : Int)) → (∀ j, j < (k).toNat → sigErr (d.gFrames_l.getD (i).toNat frm0) j = 0) → Sep w [box b1 [.slice d.gFrames_a d.gFrames_n d.gFrames_c] 33] w4 → (((d.gFrames_l.getD (i).toNat frm0).gSignals_n : Int) - k).toNat = mm_ → J Try.prog 15 62 R K15_10 [(6, .int .i64 k), (4, .int .i64 i), (1, .pointer (some ⟨b1, 0, none⟩))] w4 := by
            intro mm2
            induction mm2 using Nat.strongRecOn with
            | _ mm2 ih2 =>
            intro k w4 k0 k1 hk S4 hm2
            refine J.run 5 K15_11 [(32, .pointer (some ⟨b1, 0, none⟩)), (31, .int .i64 k), (6, .int .i64 k), (4, .int .i64 i), (1, .pointer (some ⟨b1, 0, none⟩))] w4 (by kernel_rfl) ?_
            refine J.ok (OK.ldBox S4 0 33 31 0 (.slice d.gFrames_a d.gFrames_n d.gFrames_c) (by kernel_rfl) rfl (by kernel_rfl)) ?_
            refine J.run 1 K15_12 [(34, .int .i64 i), (33, .slice d.gFrames_a d.gFrames_n d.gFrames_c), (31, .int .i64 k), (6, .int .i64 k), (4, .int .i64 i), (1, .pointer (some ⟨b1, 0, none⟩))] w4 (by kernel_rfl) ?_
            obtain ⟨p1, hp1, hc1⟩ := q2.at frm0 (i).toNat (by omega)
            have hq1 := getD_Q q3 frm0 (n := (i).toNat) (by have := q2.len_eq; omega)
            obtain ⟨q4, q5, q6, q7, q8, q9, _⟩ := id hq1
            have ql2 := q8.len_eq
            refine J.ok (OK.index 35 31 5 d.gFrames_a p1 d.gFrames_n (i).toNat i (p1.add ((i).toNat * 5)) (by kernel_rfl) (by kernel_rfl) hp1 (by omega) (by omega) rfl) ?_
            refine J.run 1 K15_13 [(36, .pointer (some ((p1.add ((i).toNat * 5)).add 4))), (31, .int .i64 k), (6, .int .i64 k), (4, .int .i64 i), (1, .pointer (some ⟨b1, 0, none⟩))] w4 (by kernel_rfl) ?_
            refine J.ok (OK.ldCell 37 40 ((p1.add ((i).toNat * 5)).add 4) (.slice ((d.gFrames_l.getD (i).toNat frm0).gSignals_a) ((d.gFrames_l.getD (i).toNat frm0).gSignals_n) ((d.gFrames_l.getD (i).toNat frm0).gSignals_c)) (by kernel_rfl) (by kernel_rfl) (S4.cell (hc1 4 _ rfl))) ?_
            refine J.run 3 K15_14 [(39, .bool (decide (k < ((d.gFrames_l.getD (i).toNat frm0).gSignals_n : Int)))), (6, .int .i64 k), (4, .int .i64 i), (1, .pointer (some ⟨b1, 0, none⟩))] w4 (by kernel_rfl) ?_
            by_cases fk4 : k < ((d.gFrames_l.getD (i).toNat frm0).gSignals_n : Int)
            · skip
              refine J.head (.bool true) (congrArg Value.bool (decide_eq_true fk4)) ?_
              refine J.run 7 K15_15 [(42, .pointer (some ⟨b1, 0, none⟩)), (6, .int .i64 k), (4, .int .i64 i), (1, .pointer (some ⟨b1, 0, none⟩))] w4 (by kernel_rfl) ?_
              refine J.ok (OK.ldBox S4 0 43 31 0 (.slice d.gFrames_a d.gFrames_n d.gFrames_c) (by kernel_rfl) rfl (by kernel_rfl)) ?_
              refine J.run 1 K15_16 [(44, .int .i64 i), (43, .slice d.gFrames_a d.gFrames_n d.gFrames_c), (6, .int .i64 k), (4, .int .i64 i), (1, .pointer (some ⟨b1, 0, none⟩))] w4 (by kernel_rfl) ?_
              refine J.ok (OK.index 45 31 5 d.gFrames_a p1 d.gFrames_n (i).toNat i (p1.add ((i).toNat * 5)) (by kernel_rfl) (by kernel_rfl) hp1 (by omega) (by omega) rfl) ?_
              refine J.ok (OK.ldCells 46 42 (p1.add ((i).toNat * 5)) [.string ((d.gFrames_l.getD (i).toNat frm0).gName), .int .i64 ((d.gFrames_l.getD (i).toNat frm0).gID), .int .i64 ((d.gFrames_l.getD (i).toNat frm0).gLength), .bool ((d.gFrames_l.getD (i).toNat frm0).gGuarded), .slice ((d.gFrames_l.getD (i).toNat frm0).gSignals_a) ((d.gFrames_l.getD (i).toNat frm0).gSignals_n) ((d.gFrames_l.getD (i).toNat frm0).gSignals_c)] (by kernel_rfl) (by kernel_rfl) (by kernel_rfl) (fun j_ v_ hj_ => S4.cell (hc1 j_ v_ hj_))) ?_
              refine J.run 1 K15_17 [(47, .int .i64 k), (46, .agg #[.string ((d.gFrames_l.getD (i).toNat frm0).gName), .int .i64 ((d.gFrames_l.getD (i).toNat frm0).gID), .int .i64 ((d.gFrames_l.getD (i).toNat frm0).gLength), .bool ((d.gFrames_l.getD (i).toNat frm0).gGuarded), .slice ((d.gFrames_l.getD (i).toNat frm0).gSignals_a) ((d.gFrames_l.getD (i).toNat frm0).gSignals_n) ((d.gFrames_l.getD (i).toNat frm0).gSignals_c)]), (6, .int .i64 k), (4, .int .i64 i), (1, .pointer (some ⟨b1, 0, none⟩))] w4 (by kernel_rfl) ?_
              refine J.callF 48 33 #[.agg #[.string ((d.gFrames_l.getD (i).toNat frm0).gName), .int .i64 ((d.gFrames_l.getD (i).toNat frm0).gID), .int .i64 ((d.gFrames_l.getD (i).toNat frm0).gLength), .bool ((d.gFrames_l.getD (i).toNat frm0).gGuarded), .slice ((d.gFrames_l.getD (i).toNat frm0).gSignals_a) ((d.gFrames_l.getD (i).toNat frm0).gSignals_n) ((d.gFrames_l.getD (i).toNat frm0).gSignals_c)], .int .i64 k] hb33 (by kernel_rfl) (part_any (d.gFrames_l.getD (i).toNat frm0) k _ (frmQ_sep hq1 S4) (by omega) (by omega)) ?_
              rintro _ w5 ⟨rfl, T2⟩
              have S5 : Sep w [box b1 [.slice d.gFrames_a d.gFrames_n d.gFrames_c] 33] w5 := S4.trans T2
              clear T2 S4
              refine J.run 7 K15_18 [(50, .bool ((sigErr (d.gFrames_l.getD (i).toNat frm0) (k).toNat) != 0)), (7, .int .i64 (sigErr (d.gFrames_l.getD (i).toNat frm0) (k).toNat)), (6, .int .i64 k), (4, .int .i64 i), (1, .pointer (some ⟨b1, 0, none⟩))] w5 (by kernel_rfl) ?_
              by_cases fk5 : (sigErr (d.gFrames_l.getD (i).toNat frm0) (k).toNat) = 0
              · skip
                refine J.head (.bool false) (congrArg Value.bool (bne_eq_false_iff_eq.2 fk5)) ?_
                refine J.run 6 K15_19 [(41, .int .i64 (IntKind.wrap .i64 (k + 1))), (4, .int .i64 i), (1, .pointer (some ⟨b1, 0, none⟩))] w5 (by kernel_rfl) ?_
                refine J.head (.int .i64 (k + 1)) (congrArg (Value.int .i64) (IntWalk.i64_in _ (by omega))) ?_
                refine J.run 3 K15_10 [(6, .int .i64 (k + 1)), (4, .int .i64 i), (1, .pointer (some ⟨b1, 0, none⟩))] w5 (by kernel_rfl) ?_
                refine J.run 0 K15_10 [(6, .int .i64 (k + 1)), (4, .int .i64 i), (1, .pointer (some ⟨b1, 0, none⟩))] w5 (by kernel_rfl) ?_
                exact ih2 _ (show (((d.gFrames_l.getD (i).toNat frm0).gSignals_n : Int) - (k + 1)).toNat < mm2 from by omega) (k + 1) w5 (by omega) (by omega) (err_step k0 hk fk5) S5 rfl
              · skip
                refine J.head (.bool true) (congrArg Value.bool (bne_iff_ne.2 fk5)) ?_
                refine J.run 4 K15_20 [(51, .pointer (some ⟨b1, 0, none⟩)), (7, .int .i64 (sigErr (d.gFrames_l.getD (i).toNat frm0) (k).toNat)), (6, .int .i64 k), (4, .int .i64 i)] w5 (by kernel_rfl) ?_
                refine J.ok (OK.ldBox S5 0 52 31 0 (.slice d.gFrames_a d.gFrames_n d.gFrames_c) (by kernel_rfl) rfl (by kernel_rfl)) ?_
                refine J.run 1 K15_21 [(53, .int .i64 i), (52, .slice d.gFrames_a d.gFrames_n d.gFrames_c), (7, .int .i64 (sigErr (d.gFrames_l.getD (i).toNat frm0) (k).toNat)), (6, .int .i64 k)] w5 (by kernel_rfl) ?_
                refine J.ok (OK.index 54 31 5 d.gFrames_a p1 d.gFrames_n (i).toNat i (p1.add ((i).toNat * 5)) (by kernel_rfl) (by kernel_rfl) hp1 (by omega) (by omega) rfl) ?_
                refine J.run 1 K15_22 [(55, .pointer (some ((p1.add ((i).toNat * 5)).add 4))), (7, .int .i64 (sigErr (d.gFrames_l.getD (i).toNat frm0) (k).toNat)), (6, .int .i64 k)] w5 (by kernel_rfl) ?_
                refine J.ok (OK.ldCell 56 40 ((p1.add ((i).toNat * 5)).add 4) (.slice ((d.gFrames_l.getD (i).toNat frm0).gSignals_a) ((d.gFrames_l.getD (i).toNat frm0).gSignals_n) ((d.gFrames_l.getD (i).toNat frm0).gSignals_c)) (by kernel_rfl) (by kernel_rfl) (S5.cell (hc1 4 _ rfl))) ?_
                refine J.run 1 K15_23 [(57, .int .i64 k), (56, .slice ((d.gFrames_l.getD (i).toNat frm0).gSignals_a) ((d.gFrames_l.getD (i).toNat frm0).gSignals_n) ((d.gFrames_l.getD (i).toNat frm0).gSignals_c)), (7, .int .i64 (sigErr (d.gFrames_l.getD (i).toNat frm0) (k).toNat))] w5 (by kernel_rfl) ?_
                obtain ⟨p2, hp2, hc2⟩ := q8.at sig0 (k).toNat (by omega)
                have hq2 := getD_Q q9 sig0 (n := (k).toNat) (by have := q8.len_eq; omega)
                obtain ⟨q10, q11, q12, q13, q14, q15, q16, q17, _⟩ := id hq2
                refine J.ok (OK.index 58 40 10 ((d.gFrames_l.getD (i).toNat frm0).gSignals_a) p2 ((d.gFrames_l.getD (i).toNat frm0).gSignals_n) (k).toNat k (p2.add ((k).toNat * 10)) (by kernel_rfl) (by kernel_rfl) hp2 (by omega) (by omega) rfl) ?_
                refine J.run 1 K15_24 [(59, .pointer (some ((p2.add ((k).toNat * 10)).add 0))), (7, .int .i64 (sigErr (d.gFrames_l.getD (i).toNat frm0) (k).toNat))] w5 (by kernel_rfl) ?_
                refine J.ok (OK.ldCell 60 9 ((p2.add ((k).toNat * 10)).add 0) (.string ((((d.gFrames_l.getD (i).toNat frm0).gSignals_l).getD (k).toNat sig0).gName)) (by kernel_rfl) (by kernel_rfl) (S5.cell (hc2 0 _ rfl))) ?_
                refine J.run 4 K15_25 [(3, .int .i64 (sigErr (d.gFrames_l.getD (i).toNat frm0) (k).toNat)), (2, .string ((((d.gFrames_l.getD (i).toNat frm0).gSignals_l).getD (k).toNat sig0).gName))] w5 (by kernel_rfl) ?_
                refine J.ret Try.f15 [.string ((((d.gFrames_l.getD (i).toNat frm0).gSignals_l).getD (k).toNat sig0).gName), .int .i64 (sigErr (d.gFrames_l.getD (i).toNat frm0) (k).toNat)] Try.func15 ⟨by kernel_rfl, by kernel_rfl, trivial⟩ ?_
                refine hR _ _ ?_
                obtain ⟨r1, r2⟩ := sigs_at (f := d.gFrames_l.getD (i).toNat frm0) (k := k.toNat) (by omega) hk rfl fk5
                have r0 := fault_at (d := d) (by omega) (by omega) hq (frm_sig fk3) (by rw [r2]; exact fk5)
                exact ⟨by rw [tup_two, r0, r1, r2], S5.nil⟩
            · skip
              refine J.head (.bool false) (congrArg Value.bool (decide_eq_false fk4)) ?_
              refine J.run 6 K15_26 [(18, .int .i64 (IntKind.wrap .i64 (i + 1))), (1, .pointer (some ⟨b1, 0, none⟩))] w4 (by kernel_rfl) ?_
              refine J.head (.int .i64 (i + 1)) (congrArg (Value.int .i64) (IntWalk.i64_in _ (by omega))) ?_
              refine J.run 3 K15_4 [(4, .int .i64 (i + 1)), (1, .pointer (some ⟨b1, 0, none⟩))] w4 (by kernel_rfl) ?_
              refine J.run 0 K15_4 [(4, .int .i64 (i + 1)), (1, .pointer (some ⟨b1, 0, none⟩))] w4 (by kernel_rfl) ?_
              exact ih1 _ (show ((d.gFrames_n : Int) - (i + 1)).toNat < mm1 from by omega) (i + 1) w4 (by omega) (by omega) (frm_step h0 hq (by rw [frm_sig fk3]; exact sigs_all fun j hj => hk j (by omega))) S4 rfl
          exact L15_2 _ 0 w3 (by omega) (by omega) (by intro j hj; simp at hj) S3 rfl
        · skip
          refine J.head (.bool true) (congrArg Value.bool (bne_iff_ne.2 fk3)) ?_
          refine J.run 4 K15_27 [(24, .pointer (some ⟨b1, 0, none⟩)), (5, .int .i64 (headErr d (i).toNat)), (4, .int .i64 i)] w3 (by kernel_rfl) ?_
          refine J.ok (OK.ldBox S3 0 25 31 0 (.slice d.gFrames_a d.gFrames_n d.gFrames_c) (by kernel_rfl) rfl (by kernel_rfl)) ?_
          refine J.run 1 K15_28 [(26, .int .i64 i), (25, .slice d.gFrames_a d.gFrames_n d.gFrames_c), (5, .int .i64 (headErr d (i).toNat))] w3 (by kernel_rfl) ?_
          obtain ⟨p3, hp3, hc3⟩ := q2.at frm0 (i).toNat (by omega)
          have hq3 := getD_Q q3 frm0 (n := (i).toNat) (by have := q2.len_eq; omega)
          obtain ⟨q18, q19, q20, q21, q22, q23, _⟩ := id hq3
          have ql3 := q22.len_eq
          refine J.ok (OK.index 27 31 5 d.gFrames_a p3 d.gFrames_n (i).toNat i (p3.add ((i).toNat * 5)) (by kernel_rfl) (by kernel_rfl) hp3 (by omega) (by omega) rfl) ?_
          refine J.run 1 K15_29 [(28, .pointer (some ((p3.add ((i).toNat * 5)).add 0))), (5, .int .i64 (headErr d (i).toNat))] w3 (by kernel_rfl) ?_
          refine J.ok (OK.ldCell 29 9 ((p3.add ((i).toNat * 5)).add 0) (.string ((d.gFrames_l.getD (i).toNat frm0).gName)) (by kernel_rfl) (by kernel_rfl) (S3.cell (hc3 0 _ rfl))) ?_
          refine J.run 4 K15_30 [(3, .int .i64 (headErr d (i).toNat)), (2, .string ((d.gFrames_l.getD (i).toNat frm0).gName))] w3 (by kernel_rfl) ?_
          refine J.ret Try.f15 [.string ((d.gFrames_l.getD (i).toNat frm0).gName), .int .i64 (headErr d (i).toNat)] Try.func15 ⟨by kernel_rfl, by kernel_rfl, trivial⟩ ?_
          refine hR _ _ ?_
          have r0 := fault_at (d := d) (by omega) (by omega) hq (frm_head rfl fk3) fk3
          exact ⟨by rw [tup_two, r0], S3.nil⟩
      · skip
        refine J.head (.bool false) (congrArg Value.bool (decide_eq_false fk2)) ?_
        refine J.run 7 K15_31 [(3, .int .i64 0), (2, .string ByteArray.empty)] w2 (by kernel_rfl) ?_
        refine J.ret Try.f15 [.string ByteArray.empty, .int .i64 0] Try.func15 ⟨by kernel_rfl, by kernel_rfl, trivial⟩ ?_
        refine hR _ _ ?_
        have r0 := fault_none (d := d) (by omega) fun j hj => hq j (by omega)
        exact ⟨by rw [tup_two, r0], S2.nil⟩
    exact L15_1 _ 0 w1 (by omega) (by omega) (by intro j hj; simp at hj) S1 rfl

def longB (s : Sig) : Bool := decide ((s.gName.size : Int) > 60)
def bigB (f : Frm) : Bool := decide ((f.gName.size : Int) > 60) || decide ((f.gSignals_n : Int) > 20) || f.gSignals_l.any longB
def fewB (d : Db) : Bool := decide ((d.gFrames_n : Int) ≤ 70) && !d.gFrames_l.any bigB
theorem hb27 : HasBody Try.prog 27 := fun _ _ => by kernel_rfl
noncomputable def K27_0 : List Item := adv 2 [] (bodyOf Try.f27)
noncomputable def K27_1 : List Item := adv 5 [] (popK K27_0)
noncomputable def K27_2 : List Item := adv 4 [] (popK K27_1)
set_option maxRecDepth 20000 in
set_option maxHeartbeats 20000000 in
theorem longsig_any (s : Sig) (w : World) : Ret Try.prog 27 #[.agg #[.string s.gName, .int .i64 s.gStart, .int .i64 s.gLength, .bool s.gMotorola, .bool s.gSigned, .int .i64 s.gNum, .int .i64 s.gOff, .int .i64 s.gDen, .int .i64 s.gLow, .int .i64 s.gHigh]] w (fun v w' => v = .bool (longB s) ∧ Sep w [] w') := by
  have S0 := Sep.refl w
  refine Ret.named fun R hR => ?_
  refine Ret.of_J (N := 7) [(0, .agg #[.string s.gName, .int .i64 s.gStart, .int .i64 s.gLength, .bool s.gMotorola, .bool s.gSigned, .int .i64 s.gNum, .int .i64 s.gOff, .int .i64 s.gDen, .int .i64 s.gLow, .int .i64 s.gHigh])] Try.func27 rfl rfl (Nat.le_of_ble_eq_true (by kernel_rfl)) (by kernel_rfl) ?_
  refine J.run 2 K27_0 [(0, .agg #[.string s.gName, .int .i64 s.gStart, .int .i64 s.gLength, .bool s.gMotorola, .bool s.gSigned, .int .i64 s.gNum, .int .i64 s.gOff, .int .i64 s.gDen, .int .i64 s.gLow, .int .i64 s.gHigh])] w (by kernel_rfl) ?_
  refine J.new S0 1 [.string s.gName, .int .i64 s.gStart, .int .i64 s.gLength, .bool s.gMotorola, .bool s.gSigned, .int .i64 s.gNum, .int .i64 s.gOff, .int .i64 s.gDen, .int .i64 s.gLow, .int .i64 s.gHigh] 23 (by kernel_rfl) ?_
  intro b1 w1 S1
  refine J.run 5 K27_1 [(3, .pointer (some ⟨b1, 0, none⟩))] w1 (by kernel_rfl) ?_
  refine J.ok (OK.ldBox S1 0 4 9 0 (.string s.gName) (by kernel_rfl) rfl (by kernel_rfl)) ?_
  refine J.run 4 K27_2 [(2, .bool (decide ((s.gName.size : Int) > 60)))] w1 (by kernel_rfl) ?_
  refine J.ret Try.f27 [.bool (decide ((s.gName.size : Int) > 60))] Try.func27 ⟨by kernel_rfl, trivial⟩ ?_
  refine hR _ _ ?_
  exact ⟨rfl, S1.nil⟩

noncomputable def K36a_0 : List Item := adv 13 [] (bodyOf Try.f36)
noncomputable def K36a_1 : List Item := adv 5 [] K36a_0
noncomputable def K36a_2 : List Item := adv 14 [true] K36a_1
noncomputable def K36a_3 : List Item := adv 1 [] (popK (popK (popK K36a_2)))
noncomputable def K36a_4 : List Item := adv 6 [true] K36a_3
noncomputable def K36a_5 : List Item := adv 5 [false] K36a_3
noncomputable def K36a_6 : List Item := adv 6 [false] K36a_1
set_option maxRecDepth 20000 in
set_option maxHeartbeats 20000000 in
theorem indexSg0 (la : Option Addr) (len cap : Nat) (l : List Sig) (g : FuncId) (q : Sig → Bool) (w : World) (hI : Recs sigE 10 w la len l) (hlen : len ≤ 9223372036854775807) (hbg : HasBody Try.prog g) (hcall : ∀ (i : Nat) (w2 : World), i < l.length → Sep w [] w2 → Ret Try.prog g #[.agg #[.string ((l.getD i sig0).gName), .int .i64 ((l.getD i sig0).gStart), .int .i64 ((l.getD i sig0).gLength), .bool ((l.getD i sig0).gMotorola), .bool ((l.getD i sig0).gSigned), .int .i64 ((l.getD i sig0).gNum), .int .i64 ((l.getD i sig0).gOff), .int .i64 ((l.getD i sig0).gDen), .int .i64 ((l.getD i sig0).gLow), .int .i64 ((l.getD i sig0).gHigh)]] w2 (fun v w3 => v = .bool (q (l.getD i sig0)) ∧ Sep w2 [] w3)) : Ret Try.prog 36 #[.slice la len cap, .func (.func g) #[] #[]] w (fun v w' => v = .int .i64 (indexF q l) ∧ Sep w [] w') := by
  have S0 := Sep.refl w
  refine Ret.named fun R hR => ?_
  refine Ret.of_J (N := 19) [(0, .slice la len cap), (1, .func (.func g) #[] #[])] Try.func36 rfl rfl (Nat.le_of_ble_eq_true (by kernel_rfl)) (by kernel_rfl) ?_
  refine J.run 13 K36a_0 [(8, .int .i64 0), (7, .int .i64 (len : Int)), (0, .slice la len cap), (1, .func (.func g) #[] #[])] w (by kernel_rfl) ?_
  have L36_1 : ∀ (mm_ : Nat) (i : Int) (w1 : World), (0 ≤ i) → (i ≤ (len : Int)) → (∀ j, j < (i).toNat → q (l.getD j sig0) = false) → Sep w [] w1 → ((len : Int) - i).toNat = mm_ → J Try.prog 36 19 R K36a_0 [(8, .int .i64 i), (7, .int .i64 (len : Int)), (0, .slice la len cap), (1, .func (.func g) #[] #[])] w1 := by
    intro mm1
    induction mm1 using Nat.strongRecOn with
    | _ mm1 ih1 =>
    intro i w1 h0 h1 hq S1 hm1
    refine J.run 5 K36a_1 [(9, .bool (decide (i < (len : Int)))), (8, .int .i64 i), (7, .int .i64 (len : Int)), (0, .slice la len cap), (1, .func (.func g) #[] #[])] w1 (by kernel_rfl) ?_
    by_cases fk1 : i < (len : Int)
    · skip
      refine J.head (.bool true) (congrArg Value.bool (decide_eq_true fk1)) ?_
      refine J.run 14 K36a_2 [(13, .int .i64 i), (12, .slice la len cap), (11, .func (.func g) #[] #[]), (5, .int .i64 i), (8, .int .i64 i), (7, .int .i64 (len : Int)), (0, .slice la len cap), (1, .func (.func g) #[] #[])] w1 (by kernel_rfl) ?_
      obtain ⟨p1, hp1, hc1⟩ := hI.at sig0 (i).toNat (by omega)
      refine J.ok (OK.index 14 40 10 la p1 len (i).toNat i (p1.add ((i).toNat * 10)) (by kernel_rfl) (by kernel_rfl) hp1 (by omega) (by omega) rfl) ?_
      refine J.ok (OK.ldCells 15 23 (p1.add ((i).toNat * 10)) [.string ((l.getD (i).toNat sig0).gName), .int .i64 ((l.getD (i).toNat sig0).gStart), .int .i64 ((l.getD (i).toNat sig0).gLength), .bool ((l.getD (i).toNat sig0).gMotorola), .bool ((l.getD (i).toNat sig0).gSigned), .int .i64 ((l.getD (i).toNat sig0).gNum), .int .i64 ((l.getD (i).toNat sig0).gOff), .int .i64 ((l.getD (i).toNat sig0).gDen), .int .i64 ((l.getD (i).toNat sig0).gLow), .int .i64 ((l.getD (i).toNat sig0).gHigh)] (by kernel_rfl) (by kernel_rfl) (by kernel_rfl) (fun j_ v_ hj_ => S1.cell (hc1 j_ v_ hj_))) ?_
      refine J.callF 16 g #[.agg #[.string ((l.getD (i).toNat sig0).gName), .int .i64 ((l.getD (i).toNat sig0).gStart), .int .i64 ((l.getD (i).toNat sig0).gLength), .bool ((l.getD (i).toNat sig0).gMotorola), .bool ((l.getD (i).toNat sig0).gSigned), .int .i64 ((l.getD (i).toNat sig0).gNum), .int .i64 ((l.getD (i).toNat sig0).gOff), .int .i64 ((l.getD (i).toNat sig0).gDen), .int .i64 ((l.getD (i).toNat sig0).gLow), .int .i64 ((l.getD (i).toNat sig0).gHigh)]] hbg (by kernel_rfl) (hcall (i).toNat w1 (by have := hI.len_eq; omega) S1.nil) ?_
      rintro _ w2 ⟨rfl, T1⟩
      have S2 : Sep w [] w2 := S1.trans T1
      clear T1 S1
      refine J.run 1 K36a_3 [(16, .bool (q (l.getD (i).toNat sig0))), (5, .int .i64 i), (8, .int .i64 i), (7, .int .i64 (len : Int)), (0, .slice la len cap), (1, .func (.func g) #[] #[])] w2 (by kernel_rfl) ?_
      rcases Bool.eq_false_or_eq_true (q (l.getD (i).toNat sig0)) with fk2 | fk2
      · skip
        refine J.head (.bool true) (congrArg Value.bool fk2) ?_
        refine J.run 6 K36a_4 [(4, .int .i64 i)] w2 (by kernel_rfl) ?_
        refine J.ret Try.f36 [.int .i64 i] Try.func36 ⟨by kernel_rfl, trivial⟩ ?_
        refine hR _ _ ?_
        exact ⟨by rw [tup_one, indexF_some sig0 i.toNat (by have := hI.len_eq; omega) hq fk2, Int.toNat_of_nonneg h0], S2.nil⟩
      · skip
        refine J.head (.bool false) (congrArg Value.bool fk2) ?_
        refine J.run 5 K36a_5 [(18, .int .i64 (IntKind.wrap .i64 (i + 1))), (7, .int .i64 (len : Int)), (0, .slice la len cap), (1, .func (.func g) #[] #[])] w2 (by kernel_rfl) ?_
        refine J.head (.int .i64 (i + 1)) (congrArg (Value.int .i64) (IntWalk.i64_in _ (by omega))) ?_
        refine J.run 3 K36a_0 [(8, .int .i64 (i + 1)), (7, .int .i64 (len : Int)), (0, .slice la len cap), (1, .func (.func g) #[] #[])] w2 (by kernel_rfl) ?_
        refine J.run 0 K36a_0 [(8, .int .i64 (i + 1)), (7, .int .i64 (len : Int)), (0, .slice la len cap), (1, .func (.func g) #[] #[])] w2 (by kernel_rfl) ?_
        exact ih1 _ (show ((len : Int) - (i + 1)).toNat < mm1 from by omega) (i + 1) w2 (by omega) (by omega) (by intro j hj; by_cases e : j = i.toNat; (subst e; exact fk2); exact hq j (by omega)) S2 rfl
    · skip
      refine J.head (.bool false) (congrArg Value.bool (decide_eq_false fk1)) ?_
      refine J.run 6 K36a_6 [(4, .int .i64 (-1))] w1 (by kernel_rfl) ?_
      refine J.ret Try.f36 [.int .i64 (-1)] Try.func36 ⟨by kernel_rfl, trivial⟩ ?_
      refine hR _ _ ?_
      exact ⟨by rw [tup_one, indexF_none sig0 fun j hj => hq j (by have := hI.len_eq; omega)], S1.nil⟩
  exact L36_1 _ 0 w (by omega) (by omega) (by intro j hj; simp at hj) S0 rfl

noncomputable def K26a_0 : List Item := adv 8 [] (bodyOf Try.f26)
noncomputable def K26a_1 : List Item := adv 3 [] (popK K26a_0)
set_option maxRecDepth 20000 in
set_option maxHeartbeats 20000000 in
theorem containsSg0 (la : Option Addr) (len cap : Nat) (l : List Sig) (g : FuncId) (q : Sig → Bool) (w : World) (hI : Recs sigE 10 w la len l) (hlen : len ≤ 9223372036854775807) (hbg : HasBody Try.prog g) (hcall : ∀ (i : Nat) (w2 : World), i < l.length → Sep w [] w2 → Ret Try.prog g #[.agg #[.string ((l.getD i sig0).gName), .int .i64 ((l.getD i sig0).gStart), .int .i64 ((l.getD i sig0).gLength), .bool ((l.getD i sig0).gMotorola), .bool ((l.getD i sig0).gSigned), .int .i64 ((l.getD i sig0).gNum), .int .i64 ((l.getD i sig0).gOff), .int .i64 ((l.getD i sig0).gDen), .int .i64 ((l.getD i sig0).gLow), .int .i64 ((l.getD i sig0).gHigh)]] w2 (fun v w3 => v = .bool (q (l.getD i sig0)) ∧ Sep w2 [] w3)) : Ret Try.prog 26 #[.slice la len cap, .func (.func g) #[] #[]] w (fun v w' => v = .bool (l.any q) ∧ Sep w [] w') := by
  have S0 := Sep.refl w
  refine Ret.named fun R hR => ?_
  refine Ret.of_J (N := 9) [(0, .slice la len cap), (1, .func (.func g) #[] #[])] Try.func26 rfl rfl (Nat.le_of_ble_eq_true (by kernel_rfl)) (by kernel_rfl) ?_
  refine J.run 8 K26a_0 [(6, .func (.func g) #[] #[]), (5, .slice la len cap)] w (by kernel_rfl) ?_
  refine J.callF 7 36 #[.slice la len cap, .func (.func g) #[] #[]] hb36 (by kernel_rfl) (indexSg0 la len cap l g  q _ (hI.sep S0) (by first | omega | (simp; omega)) hbg (hcall)) ?_
  rintro _ w1 ⟨rfl, T1⟩
  have S1 : Sep w [] w1 := S0.trans T1
  clear T1
  refine J.run 3 K26a_1 [(4, .bool (decide ((indexF q l) ≥ 0)))] w1 (by kernel_rfl) ?_
  refine J.ret Try.f26 [.bool (decide ((indexF q l) ≥ 0))] Try.func26 ⟨by kernel_rfl, trivial⟩ ?_
  refine hR _ _ ?_
  exact ⟨congrArg Value.bool (by first | exact indexF_nonneg), S1.nil⟩

theorem hb25 : HasBody Try.prog 25 := fun _ _ => by kernel_rfl
noncomputable def K25_0 : List Item := adv 2 [] (bodyOf Try.f25)
noncomputable def K25_1 : List Item := adv 5 [] (popK K25_0)
noncomputable def K25_2 : List Item := adv 3 [] (popK K25_1)
noncomputable def K25_3 : List Item := adv 12 [] K25_2
noncomputable def K25_4 : List Item := adv 1 [] K25_2
noncomputable def K25_5 : List Item := adv 4 [] (popK K25_4)
noncomputable def K25_6 : List Item := adv 6 [] K25_5
noncomputable def K25_7 : List Item := adv 1 [] K25_5
noncomputable def K25_8 : List Item := adv 3 [] (popK (popK K25_7))
set_option maxRecDepth 20000 in
set_option maxHeartbeats 20000000 in
theorem big_any (f : Frm) (w : World) (hf : frmQ w f) : Ret Try.prog 25 #[.agg #[.string f.gName, .int .i64 f.gID, .int .i64 f.gLength, .bool f.gGuarded, .slice f.gSignals_a f.gSignals_n f.gSignals_c]] w (fun v w' => v = .bool (bigB f) ∧ Sep w [] w') := by
  have S0 := Sep.refl w
  refine Ret.named fun R hR => ?_
  refine Ret.of_J (N := 18) [(0, .agg #[.string f.gName, .int .i64 f.gID, .int .i64 f.gLength, .bool f.gGuarded, .slice f.gSignals_a f.gSignals_n f.gSignals_c])] Try.func25 rfl rfl (Nat.le_of_ble_eq_true (by kernel_rfl)) (by kernel_rfl) ?_
  obtain ⟨q1, q2, q3, q4, q5, q6, _⟩ := id hf
  have ql1 := q5.len_eq
  refine J.run 2 K25_0 [(0, .agg #[.string f.gName, .int .i64 f.gID, .int .i64 f.gLength, .bool f.gGuarded, .slice f.gSignals_a f.gSignals_n f.gSignals_c])] w (by kernel_rfl) ?_
  refine J.new S0 1 [.string f.gName, .int .i64 f.gID, .int .i64 f.gLength, .bool f.gGuarded, .slice f.gSignals_a f.gSignals_n f.gSignals_c] 42 (by kernel_rfl) ?_
  intro b1 w1 S1
  refine J.run 5 K25_1 [(3, .pointer (some ⟨b1, 0, none⟩)), (1, .pointer (some ⟨b1, 0, none⟩))] w1 (by kernel_rfl) ?_
  refine J.ok (OK.ldBox S1 0 4 9 0 (.string f.gName) (by kernel_rfl) rfl (by kernel_rfl)) ?_
  refine J.run 3 K25_2 [(7, .bool (decide ((f.gName.size : Int) > 60))), (1, .pointer (some ⟨b1, 0, none⟩))] w1 (by kernel_rfl) ?_
  by_cases fk1 : (f.gName.size : Int) > 60
  · skip
    refine J.head (.bool true) (congrArg Value.bool (decide_eq_true fk1)) ?_
    refine J.run 12 K25_3 [(2, .bool true)] w1 (by kernel_rfl) ?_
    refine J.ret Try.f25 [.bool true] Try.func25 ⟨by kernel_rfl, trivial⟩ ?_
    refine hR _ _ ?_
    exact ⟨congrArg Value.bool (by unfold bigB; first | (simp [fk1]; done) | (simp [fk1]; omega)), S1.nil⟩
  · skip
    refine J.head (.bool false) (congrArg Value.bool (decide_eq_false fk1)) ?_
    refine J.run 1 K25_4 [(8, .pointer (some ⟨b1, 4, none⟩)), (7, .bool false), (1, .pointer (some ⟨b1, 0, none⟩))] w1 (by kernel_rfl) ?_
    refine J.ok (OK.ldBox S1 0 9 40 4 (.slice f.gSignals_a f.gSignals_n f.gSignals_c) (by kernel_rfl) rfl (by kernel_rfl)) ?_
    refine J.run 4 K25_5 [(13, .bool (decide ((f.gSignals_n : Int) > 20))), (1, .pointer (some ⟨b1, 0, none⟩))] w1 (by kernel_rfl) ?_
    by_cases fk2 : (f.gSignals_n : Int) > 20
    · skip
      refine J.head (.bool true) (congrArg Value.bool (decide_eq_true fk2)) ?_
      refine J.run 6 K25_6 [(2, .bool true)] w1 (by kernel_rfl) ?_
      refine J.ret Try.f25 [.bool true] Try.func25 ⟨by kernel_rfl, trivial⟩ ?_
      refine hR _ _ ?_
      exact ⟨congrArg Value.bool (by unfold bigB; first | (simp [fk1, fk2]; done) | (simp [fk1, fk2]; omega)), S1.nil⟩
    · skip
      refine J.head (.bool false) (congrArg Value.bool (decide_eq_false fk2)) ?_
      refine J.run 1 K25_7 [(14, .pointer (some ⟨b1, 4, none⟩)), (13, .bool false)] w1 (by kernel_rfl) ?_
      refine J.ok (OK.ldBox S1 0 15 40 4 (.slice f.gSignals_a f.gSignals_n f.gSignals_c) (by kernel_rfl) rfl (by kernel_rfl)) ?_
      refine J.callF 16 26 #[.slice f.gSignals_a f.gSignals_n f.gSignals_c, .func (.func 27) #[] #[]] hb26 (by kernel_rfl) (containsSg0 f.gSignals_a f.gSignals_n f.gSignals_c f.gSignals_l 27  longB _ (q5.sep S1) (by first | omega | (simp; omega)) hb27 (fun i_ w_ hi_ S_ => longsig_any _ w_)) ?_
      rintro _ w2 ⟨rfl, T1⟩
      have S2 : Sep w [box b1 [.string f.gName, .int .i64 f.gID, .int .i64 f.gLength, .bool f.gGuarded, .slice f.gSignals_a f.gSignals_n f.gSignals_c] 42] w2 := S1.trans T1
      clear T1 S1
      refine J.run 3 K25_8 [(2, .bool (List.any f.gSignals_l longB))] w2 (by kernel_rfl) ?_
      refine J.ret Try.f25 [.bool (List.any f.gSignals_l longB)] Try.func25 ⟨by kernel_rfl, trivial⟩ ?_
      refine hR _ _ ?_
      exact ⟨congrArg Value.bool (by unfold bigB; first | (simp [fk1, fk2]; done) | (simp [fk1, fk2]; omega)), S2.nil⟩

noncomputable def K35a_0 : List Item := adv 13 [] (bodyOf Try.f35)
noncomputable def K35a_1 : List Item := adv 5 [] K35a_0
noncomputable def K35a_2 : List Item := adv 14 [true] K35a_1
noncomputable def K35a_3 : List Item := adv 1 [] (popK (popK (popK K35a_2)))
noncomputable def K35a_4 : List Item := adv 6 [true] K35a_3
noncomputable def K35a_5 : List Item := adv 5 [false] K35a_3
noncomputable def K35a_6 : List Item := adv 6 [false] K35a_1
set_option maxRecDepth 20000 in
set_option maxHeartbeats 20000000 in
theorem indexFr0 (la : Option Addr) (len cap : Nat) (l : List Frm) (g : FuncId) (q : Frm → Bool) (w : World) (hI : Recs frmE 5 w la len l) (hlen : len ≤ 9223372036854775807) (hbg : HasBody Try.prog g) (hcall : ∀ (i : Nat) (w2 : World), i < l.length → Sep w [] w2 → Ret Try.prog g #[.agg #[.string ((l.getD i frm0).gName), .int .i64 ((l.getD i frm0).gID), .int .i64 ((l.getD i frm0).gLength), .bool ((l.getD i frm0).gGuarded), .slice ((l.getD i frm0).gSignals_a) ((l.getD i frm0).gSignals_n) ((l.getD i frm0).gSignals_c)]] w2 (fun v w3 => v = .bool (q (l.getD i frm0)) ∧ Sep w2 [] w3)) : Ret Try.prog 35 #[.slice la len cap, .func (.func g) #[] #[]] w (fun v w' => v = .int .i64 (indexF q l) ∧ Sep w [] w') := by
  have S0 := Sep.refl w
  refine Ret.named fun R hR => ?_
  refine Ret.of_J (N := 19) [(0, .slice la len cap), (1, .func (.func g) #[] #[])] Try.func35 rfl rfl (Nat.le_of_ble_eq_true (by kernel_rfl)) (by kernel_rfl) ?_
  refine J.run 13 K35a_0 [(8, .int .i64 0), (7, .int .i64 (len : Int)), (0, .slice la len cap), (1, .func (.func g) #[] #[])] w (by kernel_rfl) ?_
  have L35_1 : ∀ (mm_ : Nat) (i : Int) (w1 : World), (0 ≤ i) → (i ≤ (len : Int)) → (∀ j, j < (i).toNat → q (l.getD j frm0) = false) → Sep w [] w1 → ((len : Int) - i).toNat = mm_ → J Try.prog 35 19 R K35a_0 [(8, .int .i64 i), (7, .int .i64 (len : Int)), (0, .slice la len cap), (1, .func (.func g) #[] #[])] w1 := by
    intro mm1
    induction mm1 using Nat.strongRecOn with
    | _ mm1 ih1 =>
    intro i w1 h0 h1 hq S1 hm1
    refine J.run 5 K35a_1 [(9, .bool (decide (i < (len : Int)))), (8, .int .i64 i), (7, .int .i64 (len : Int)), (0, .slice la len cap), (1, .func (.func g) #[] #[])] w1 (by kernel_rfl) ?_
    by_cases fk1 : i < (len : Int)
    · skip
      refine J.head (.bool true) (congrArg Value.bool (decide_eq_true fk1)) ?_
      refine J.run 14 K35a_2 [(13, .int .i64 i), (12, .slice la len cap), (11, .func (.func g) #[] #[]), (5, .int .i64 i), (8, .int .i64 i), (7, .int .i64 (len : Int)), (0, .slice la len cap), (1, .func (.func g) #[] #[])] w1 (by kernel_rfl) ?_
      obtain ⟨p1, hp1, hc1⟩ := hI.at frm0 (i).toNat (by omega)
      refine J.ok (OK.index 14 31 5 la p1 len (i).toNat i (p1.add ((i).toNat * 5)) (by kernel_rfl) (by kernel_rfl) hp1 (by omega) (by omega) rfl) ?_
      refine J.ok (OK.ldCells 15 42 (p1.add ((i).toNat * 5)) [.string ((l.getD (i).toNat frm0).gName), .int .i64 ((l.getD (i).toNat frm0).gID), .int .i64 ((l.getD (i).toNat frm0).gLength), .bool ((l.getD (i).toNat frm0).gGuarded), .slice ((l.getD (i).toNat frm0).gSignals_a) ((l.getD (i).toNat frm0).gSignals_n) ((l.getD (i).toNat frm0).gSignals_c)] (by kernel_rfl) (by kernel_rfl) (by kernel_rfl) (fun j_ v_ hj_ => S1.cell (hc1 j_ v_ hj_))) ?_
      refine J.callF 16 g #[.agg #[.string ((l.getD (i).toNat frm0).gName), .int .i64 ((l.getD (i).toNat frm0).gID), .int .i64 ((l.getD (i).toNat frm0).gLength), .bool ((l.getD (i).toNat frm0).gGuarded), .slice ((l.getD (i).toNat frm0).gSignals_a) ((l.getD (i).toNat frm0).gSignals_n) ((l.getD (i).toNat frm0).gSignals_c)]] hbg (by kernel_rfl) (hcall (i).toNat w1 (by have := hI.len_eq; omega) S1.nil) ?_
      rintro _ w2 ⟨rfl, T1⟩
      have S2 : Sep w [] w2 := S1.trans T1
      clear T1 S1
      refine J.run 1 K35a_3 [(16, .bool (q (l.getD (i).toNat frm0))), (5, .int .i64 i), (8, .int .i64 i), (7, .int .i64 (len : Int)), (0, .slice la len cap), (1, .func (.func g) #[] #[])] w2 (by kernel_rfl) ?_
      rcases Bool.eq_false_or_eq_true (q (l.getD (i).toNat frm0)) with fk2 | fk2
      · skip
        refine J.head (.bool true) (congrArg Value.bool fk2) ?_
        refine J.run 6 K35a_4 [(4, .int .i64 i)] w2 (by kernel_rfl) ?_
        refine J.ret Try.f35 [.int .i64 i] Try.func35 ⟨by kernel_rfl, trivial⟩ ?_
        refine hR _ _ ?_
        exact ⟨by rw [tup_one, indexF_some frm0 i.toNat (by have := hI.len_eq; omega) hq fk2, Int.toNat_of_nonneg h0], S2.nil⟩
      · skip
        refine J.head (.bool false) (congrArg Value.bool fk2) ?_
        refine J.run 5 K35a_5 [(18, .int .i64 (IntKind.wrap .i64 (i + 1))), (7, .int .i64 (len : Int)), (0, .slice la len cap), (1, .func (.func g) #[] #[])] w2 (by kernel_rfl) ?_
        refine J.head (.int .i64 (i + 1)) (congrArg (Value.int .i64) (IntWalk.i64_in _ (by omega))) ?_
        refine J.run 3 K35a_0 [(8, .int .i64 (i + 1)), (7, .int .i64 (len : Int)), (0, .slice la len cap), (1, .func (.func g) #[] #[])] w2 (by kernel_rfl) ?_
        refine J.run 0 K35a_0 [(8, .int .i64 (i + 1)), (7, .int .i64 (len : Int)), (0, .slice la len cap), (1, .func (.func g) #[] #[])] w2 (by kernel_rfl) ?_
        exact ih1 _ (show ((len : Int) - (i + 1)).toNat < mm1 from by omega) (i + 1) w2 (by omega) (by omega) (by intro j hj; by_cases e : j = i.toNat; (subst e; exact fk2); exact hq j (by omega)) S2 rfl
    · skip
      refine J.head (.bool false) (congrArg Value.bool (decide_eq_false fk1)) ?_
      refine J.run 6 K35a_6 [(4, .int .i64 (-1))] w1 (by kernel_rfl) ?_
      refine J.ret Try.f35 [.int .i64 (-1)] Try.func35 ⟨by kernel_rfl, trivial⟩ ?_
      refine hR _ _ ?_
      exact ⟨by rw [tup_one, indexF_none frm0 fun j hj => hq j (by have := hI.len_eq; omega)], S1.nil⟩
  exact L35_1 _ 0 w (by omega) (by omega) (by intro j hj; simp at hj) S0 rfl

noncomputable def K24a_0 : List Item := adv 8 [] (bodyOf Try.f24)
noncomputable def K24a_1 : List Item := adv 3 [] (popK K24a_0)
set_option maxRecDepth 20000 in
set_option maxHeartbeats 20000000 in
theorem containsFr0 (la : Option Addr) (len cap : Nat) (l : List Frm) (g : FuncId) (q : Frm → Bool) (w : World) (hI : Recs frmE 5 w la len l) (hlen : len ≤ 9223372036854775807) (hbg : HasBody Try.prog g) (hcall : ∀ (i : Nat) (w2 : World), i < l.length → Sep w [] w2 → Ret Try.prog g #[.agg #[.string ((l.getD i frm0).gName), .int .i64 ((l.getD i frm0).gID), .int .i64 ((l.getD i frm0).gLength), .bool ((l.getD i frm0).gGuarded), .slice ((l.getD i frm0).gSignals_a) ((l.getD i frm0).gSignals_n) ((l.getD i frm0).gSignals_c)]] w2 (fun v w3 => v = .bool (q (l.getD i frm0)) ∧ Sep w2 [] w3)) : Ret Try.prog 24 #[.slice la len cap, .func (.func g) #[] #[]] w (fun v w' => v = .bool (l.any q) ∧ Sep w [] w') := by
  have S0 := Sep.refl w
  refine Ret.named fun R hR => ?_
  refine Ret.of_J (N := 9) [(0, .slice la len cap), (1, .func (.func g) #[] #[])] Try.func24 rfl rfl (Nat.le_of_ble_eq_true (by kernel_rfl)) (by kernel_rfl) ?_
  refine J.run 8 K24a_0 [(6, .func (.func g) #[] #[]), (5, .slice la len cap)] w (by kernel_rfl) ?_
  refine J.callF 7 35 #[.slice la len cap, .func (.func g) #[] #[]] hb35 (by kernel_rfl) (indexFr0 la len cap l g  q _ (hI.sep S0) (by first | omega | (simp; omega)) hbg (hcall)) ?_
  rintro _ w1 ⟨rfl, T1⟩
  have S1 : Sep w [] w1 := S0.trans T1
  clear T1
  refine J.run 3 K24a_1 [(4, .bool (decide ((indexF q l) ≥ 0)))] w1 (by kernel_rfl) ?_
  refine J.ret Try.f24 [.bool (decide ((indexF q l) ≥ 0))] Try.func24 ⟨by kernel_rfl, trivial⟩ ?_
  refine hR _ _ ?_
  exact ⟨congrArg Value.bool (by first | exact indexF_nonneg), S1.nil⟩

theorem hb13 : HasBody Try.prog 13 := fun _ _ => by kernel_rfl
noncomputable def K13_0 : List Item := adv 2 [] (bodyOf Try.f13)
noncomputable def K13_1 : List Item := adv 5 [] (popK K13_0)
noncomputable def K13_2 : List Item := adv 3 [] (popK K13_1)
noncomputable def K13_3 : List Item := adv 1 [] K13_2
noncomputable def K13_4 : List Item := adv 4 [] (popK (popK K13_3))
noncomputable def K13_5 : List Item := adv 7 [] K13_2
set_option maxRecDepth 20000 in
set_option maxHeartbeats 20000000 in
theorem few_any (d : Db) (w : World) (hd : dbQ w d) : Ret Try.prog 13 #[.agg #[.slice d.gFrames_a d.gFrames_n d.gFrames_c]] w (fun v w' => v = .bool (fewB d) ∧ Sep w [] w') := by
  have S0 := Sep.refl w
  refine Ret.named fun R hR => ?_
  refine Ret.of_J (N := 13) [(0, .agg #[.slice d.gFrames_a d.gFrames_n d.gFrames_c])] Try.func13 rfl rfl (Nat.le_of_ble_eq_true (by kernel_rfl)) (by kernel_rfl) ?_
  obtain ⟨q1, q2, q3, _⟩ := id hd
  have ql1 := q2.len_eq
  refine J.run 2 K13_0 [(0, .agg #[.slice d.gFrames_a d.gFrames_n d.gFrames_c])] w (by kernel_rfl) ?_
  refine J.new S0 1 [.slice d.gFrames_a d.gFrames_n d.gFrames_c] 33 (by kernel_rfl) ?_
  intro b1 w1 S1
  refine J.run 5 K13_1 [(3, .pointer (some ⟨b1, 0, none⟩)), (1, .pointer (some ⟨b1, 0, none⟩))] w1 (by kernel_rfl) ?_
  refine J.ok (OK.ldBox S1 0 4 31 0 (.slice d.gFrames_a d.gFrames_n d.gFrames_c) (by kernel_rfl) rfl (by kernel_rfl)) ?_
  refine J.run 3 K13_2 [(7, .bool (decide ((d.gFrames_n : Int) ≤ 70))), (1, .pointer (some ⟨b1, 0, none⟩))] w1 (by kernel_rfl) ?_
  by_cases fk1 : (d.gFrames_n : Int) ≤ 70
  · skip
    refine J.head (.bool true) (congrArg Value.bool (decide_eq_true fk1)) ?_
    refine J.run 1 K13_3 [(8, .pointer (some ⟨b1, 0, none⟩)), (7, .bool true)] w1 (by kernel_rfl) ?_
    refine J.ok (OK.ldBox S1 0 9 31 0 (.slice d.gFrames_a d.gFrames_n d.gFrames_c) (by kernel_rfl) rfl (by kernel_rfl)) ?_
    refine J.callF 10 24 #[.slice d.gFrames_a d.gFrames_n d.gFrames_c, .func (.func 25) #[] #[]] hb24 (by kernel_rfl) (containsFr0 d.gFrames_a d.gFrames_n d.gFrames_c d.gFrames_l 25  bigB _ (q2.sep S1) (by first | omega | (simp; omega)) hb25 (fun i_ w_ hi_ S_ => big_any _ w_ (frmQ_sep (frmQ_sep (getD_Q q3 frm0 hi_) S1) S_))) ?_
    rintro _ w2 ⟨rfl, T1⟩
    have S2 : Sep w [box b1 [.slice d.gFrames_a d.gFrames_n d.gFrames_c] 33] w2 := S1.trans T1
    clear T1 S1
    refine J.run 4 K13_4 [(2, .bool (!(List.any d.gFrames_l bigB)))] w2 (by kernel_rfl) ?_
    refine J.ret Try.f13 [.bool (!(List.any d.gFrames_l bigB))] Try.func13 ⟨by kernel_rfl, trivial⟩ ?_
    refine hR _ _ ?_
    exact ⟨congrArg Value.bool (by unfold fewB; first | (simp [fk1]; done) | (simp [fk1]; omega)), S2.nil⟩
  · skip
    refine J.head (.bool false) (congrArg Value.bool (decide_eq_false fk1)) ?_
    refine J.run 7 K13_5 [(2, .bool false)] w1 (by kernel_rfl) ?_
    refine J.ret Try.f13 [.bool false] Try.func13 ⟨by kernel_rfl, trivial⟩ ?_
    refine hR _ _ ?_
    exact ⟨congrArg Value.bool (by unfold fewB; first | (simp [fk1]; done) | (simp [fk1]; omega)), S1.nil⟩

theorem hb5 : HasBody Try.prog 5 := fun _ _ => by kernel_rfl
noncomputable def K5_0 : List Item := adv 2 [] (bodyOf Try.f5)
noncomputable def K5_1 : List Item := adv 5 [] (popK K5_0)
noncomputable def K5_2 : List Item := adv 7 [false] (popK K5_1)
noncomputable def K5_3 : List Item := adv 2 [] (popK (popK K5_2))
noncomputable def K5_4 : List Item := adv 4 [false] K5_3
noncomputable def K5_5 : List Item := adv 8 [] (popK (popK K5_4))
noncomputable def K5_6 : List Item := adv 11 [] (popK (popK K5_5))
noncomputable def K5_7 : List Item := adv 4 [] K5_6
noncomputable def K5_8 : List Item := adv 2 [] K5_7
noncomputable def K5_9 : List Item := adv 3 [] (popK (popK K5_8))
noncomputable def K5_10 : List Item := adv 3 [] K5_9
noncomputable def K5_11 : List Item := adv 5 [true] K5_3
set_option maxRecDepth 20000 in
set_option maxHeartbeats 20000000 in
theorem lawfaults_any (d : Db) (w : World) (hd : dbQ w d) : Ret Try.prog 5 #[.agg #[.slice d.gFrames_a d.gFrames_n d.gFrames_c]] w (fun v w' => v = .bool true ∧ Sep w [] w') := by
  have S0 := Sep.refl w
  refine Ret.named fun R hR => ?_
  refine Ret.of_J (N := 37) [(0, .agg #[.slice d.gFrames_a d.gFrames_n d.gFrames_c])] Try.func5 rfl rfl (Nat.le_of_ble_eq_true (by kernel_rfl)) (by kernel_rfl) ?_
  obtain ⟨q1, q2, q3, _⟩ := id hd
  have ql1 := q2.len_eq
  refine J.run 2 K5_0 [(0, .agg #[.slice d.gFrames_a d.gFrames_n d.gFrames_c])] w (by kernel_rfl) ?_
  refine J.new S0 1 [.slice d.gFrames_a d.gFrames_n d.gFrames_c] 33 (by kernel_rfl) ?_
  intro b1 w1 S1
  refine J.run 5 K5_1 [(1, .pointer (some ⟨b1, 0, none⟩))] w1 (by kernel_rfl) ?_
  refine J.callF 7 7 #[] hb7 (by kernel_rfl) (awake_any  _) ?_
  rintro _ w2 ⟨rfl, T1⟩
  have S2 : Sep w [box b1 [.slice d.gFrames_a d.gFrames_n d.gFrames_c] 33] w2 := S1.trans T1
  clear T1 S1
  refine J.run 7 K5_2 [(1, .pointer (some ⟨b1, 0, none⟩))] w2 (by kernel_rfl) ?_
  refine J.ok (OK.ldBox S2 0 9 33 0 (.agg #[.slice d.gFrames_a d.gFrames_n d.gFrames_c]) (by kernel_rfl) rfl (by kernel_rfl)) ?_
  refine J.callF 10 13 #[.agg #[.slice d.gFrames_a d.gFrames_n d.gFrames_c]] hb13 (by kernel_rfl) (few_any d _ (dbQ_sep hd S2)) ?_
  rintro _ w3 ⟨rfl, T2⟩
  have S3 : Sep w [box b1 [.slice d.gFrames_a d.gFrames_n d.gFrames_c] 33] w3 := S2.trans T2
  clear T2 S2
  refine J.run 2 K5_3 [(11, .bool (!(fewB d))), (1, .pointer (some ⟨b1, 0, none⟩))] w3 (by kernel_rfl) ?_
  rcases Bool.eq_false_or_eq_true (fewB d) with fk1 | fk1
  · skip
    refine J.head (.bool false) (congrArg Value.bool (by rw [fk1]; rfl)) ?_
    refine J.run 4 K5_4 [(1, .pointer (some ⟨b1, 0, none⟩))] w3 (by kernel_rfl) ?_
    refine J.ok (OK.ldBox S3 0 13 33 0 (.agg #[.slice d.gFrames_a d.gFrames_n d.gFrames_c]) (by kernel_rfl) rfl (by kernel_rfl)) ?_
    refine J.callF 14 14 #[.agg #[.slice d.gFrames_a d.gFrames_n d.gFrames_c]] hb14 (by kernel_rfl) (fault_any d _ (dbQ_sep hd S3)) ?_
    rintro _ w4 ⟨rfl, T3⟩
    have S4 : Sep w [box b1 [.slice d.gFrames_a d.gFrames_n d.gFrames_c] 33] w4 := S3.trans T3
    clear T3 S3
    refine J.run 8 K5_5 [(4, .int .i64 ((faultF d).2)), (3, .string ((faultF d).1)), (1, .pointer (some ⟨b1, 0, none⟩))] w4 (by kernel_rfl) ?_
    refine J.ok (OK.ldBox S4 0 18 33 0 (.agg #[.slice d.gFrames_a d.gFrames_n d.gFrames_c]) (by kernel_rfl) rfl (by kernel_rfl)) ?_
    refine J.callF 19 15 #[.agg #[.slice d.gFrames_a d.gFrames_n d.gFrames_c]] hb15 (by kernel_rfl) (rfault_any d _ (dbQ_sep hd S4)) ?_
    rintro _ w5 ⟨rfl, T4⟩
    have S5 : Sep w [box b1 [.slice d.gFrames_a d.gFrames_n d.gFrames_c] 33] w5 := S4.trans T4
    clear T4 S4
    refine J.run 11 K5_6 [(24, .bool (((faultF d).1).toList == ((faultF d).1).toList)), (6, .int .i64 ((faultF d).2)), (4, .int .i64 ((faultF d).2)), (1, .pointer (some ⟨b1, 0, none⟩))] w5 (by kernel_rfl) ?_
    refine J.head (.bool true) (congrArg Value.bool (by simp)) ?_
    refine J.run 4 K5_7 [(28, .bool (((faultF d).2) == ((faultF d).2))), (25, .bool true), (6, .int .i64 ((faultF d).2)), (1, .pointer (some ⟨b1, 0, none⟩))] w5 (by kernel_rfl) ?_
    refine J.head (.bool true) (congrArg Value.bool (by simp)) ?_
    refine J.run 2 K5_8 [(30, .bool true), (6, .int .i64 ((faultF d).2)), (1, .pointer (some ⟨b1, 0, none⟩))] w5 (by kernel_rfl) ?_
    refine J.ok (OK.ldBox S5 0 31 33 0 (.agg #[.slice d.gFrames_a d.gFrames_n d.gFrames_c]) (by kernel_rfl) rfl (by kernel_rfl)) ?_
    refine J.callF 32 16 #[.agg #[.slice d.gFrames_a d.gFrames_n d.gFrames_c]] hb16 (by kernel_rfl) (validdb_any d _ (dbQ_sep hd S5)) ?_
    rintro _ w6 ⟨rfl, T5⟩
    have S6 : Sep w [box b1 [.slice d.gFrames_a d.gFrames_n d.gFrames_c] 33] w6 := S5.trans T5
    clear T5 S5
    refine J.run 3 K5_9 [(35, .bool ((((faultF d).2) == 0) == (((faultF d).2) == 0))), (30, .bool true)] w6 (by kernel_rfl) ?_
    refine J.head (.bool true) (congrArg Value.bool (by simp)) ?_
    refine J.run 3 K5_10 [(2, .bool true)] w6 (by kernel_rfl) ?_
    refine J.ret Try.f5 [.bool true] Try.func5 ⟨by kernel_rfl, trivial⟩ ?_
    refine hR _ _ ?_
    exact ⟨rfl, S6.nil⟩
  · skip
    refine J.head (.bool true) (congrArg Value.bool (by rw [fk1]; rfl)) ?_
    refine J.run 5 K5_11 [(2, .bool true)] w3 (by kernel_rfl) ?_
    refine J.ret Try.f5 [.bool true] Try.func5 ⟨by kernel_rfl, trivial⟩ ?_
    refine hR _ _ ?_
    exact ⟨rfl, S3.nil⟩

end Go.Proofs.Ytpmkdhdcejcpfaa
