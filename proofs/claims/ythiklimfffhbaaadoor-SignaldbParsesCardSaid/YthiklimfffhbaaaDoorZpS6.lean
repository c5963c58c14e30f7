/- Walks of functions of this seat, printed by a program over the engine. Conditions: as each theorem says. -/
import Derived.Test.YthiklimfffhbaaaDoorZpS5
namespace Go.Proofs.YthiklimfffhbaaaDoor
noncomputable section
open Go.Eng Go.RowKit
set_option linter.unusedSimpArgs false
set_option linter.unusedVariables false
theorem hd_len {d : Db} {k : Nat} (h : headErr d k = 0) : 1 ≤ (d.gFrames_l.getD k frm0).gLength ∧ (d.gFrames_l.getD k frm0).gLength ≤ 8 := by
  unfold headErr at h
  split at h
  · omega
  split at h
  · omega
  rename_i h2
  cases hx : inB (d.gFrames_l.getD k frm0).gLength 1 8 with
  | true => exact inB_iff.1 hx
  | false => exact absurd (show hdBad (d.gFrames_l.getD k frm0) = true by unfold hdBad; rw [hx]; simp) h2
theorem hb46 : HasBody Tryd.prog 46 := fun _ _ => by kernel_rfl
def K46_0 := adv 2 [] (bodyOf Tryd.f46)
def K46_1 := adv 7 [] (popK K46_0)
def K46_2 := adv 3 [] (popK K46_1)
def K46_3 := adv 6 [true] K46_2
def K46_4 := adv 9 [false] K46_2
def K46_5 := adv 5 [] K46_4
def K46_6 := adv 3 [] (popK K46_5)
def K46_7 := adv 7 [true] K46_6
def K46_8 := adv 1 [] (popK K46_7)
def K46_9 := adv 7 [] (popK K46_8)
def K46_10 := adv 8 [false] K46_9
def K46_11 := adv 5 [] K46_10
def K46_12 := adv 1 [] (popK K46_11)
def K46_13 := adv 1 [] (popK K46_12)
def K46_14 := adv 3 [] (popK K46_13)
def K46_15 := adv 7 [true] K46_14
def K46_16 := adv 1 [] (popK K46_15)
def K46_17 := adv 1 [] (popK (popK K46_16))
def K46_18 := adv 7 [] (popK K46_17)
def K46_19 := adv 6 [false] K46_18
def K46_20 := adv 4 [true] K46_18
def K46_21 := adv 1 [] (popK K46_20)
def K46_22 := adv 1 [] (popK K46_21)
def K46_23 := adv 1 [] (popK K46_22)
def K46_24 := adv 1 [] (popK K46_23)
def K46_25 := adv 4 [] (popK K46_24)
def K46_26 := adv 6 [false] K46_14
def K46_27 := adv 4 [true] K46_9
def K46_28 := adv 1 [] (popK K46_27)
def K46_29 := adv 1 [] (popK K46_28)
def K46_30 := adv 4 [] (popK K46_29)
def K46_31 := adv 7 [false] K46_6
set_option maxRecDepth 20000 in
set_option maxHeartbeats 20000000 in
theorem rfault_any (d : Db) (w : World) (hd : dbQ w d) : Ret Tryd.prog 46 #[.agg #[.slice d.gFrames_a d.gFrames_n d.gFrames_c]] w (fun v w' => v = .tuple #[.string (faultF d).1, .int .i64 (faultF d).2] ∧ Sep w [] w') := by
 have S0 := Sep.refl w
 refine Ret.named fun R hR => ?_
 refine Ret.of_J (N := 62) [(0, .agg #[.slice d.gFrames_a d.gFrames_n d.gFrames_c])] Tryd.func46 rfl rfl (Nat.le_of_ble_eq_true (by kernel_rfl)) (by kernel_rfl) ?_
 obtain ⟨q1, q2, q3, _⟩ := id hd
 have ql1 := q2.len_eq
 refine J.run 2 K46_0 [(0, .agg #[.slice d.gFrames_a d.gFrames_n d.gFrames_c])] w (by kernel_rfl) ?_
 refine J.new S0 1 [.slice d.gFrames_a d.gFrames_n d.gFrames_c] 24 (by kernel_rfl) ?_
 intro b1 w1 S1
 refine J.run 7 K46_1 [(8, .pointer (some ⟨b1, 0, none⟩)), (1, .pointer (some ⟨b1, 0, none⟩))] w1 (by kernel_rfl) ?_
 refine J.ok (OK.ldBox S1 0 9 22 0 (.slice d.gFrames_a d.gFrames_n d.gFrames_c) (by kernel_rfl) rfl (by kernel_rfl)) ?_
 refine J.run 3 K46_2 [(11, .bool (decide ((d.gFrames_n : Int) > 64))), (1, .pointer (some ⟨b1, 0, none⟩))] w1 (by kernel_rfl) ?_
 by_cases fk1 : (d.gFrames_n : Int) > 64
 ·skip
  refine J.head (.bool true) (congrArg Value.bool (decide_eq_true fk1)) ?_
  refine J.run 6 K46_3 [(3, .int .i64 5), (2, .string ByteArray.empty)] w1 (by kernel_rfl) ?_
  refine J.ret Tryd.f46 [.string ByteArray.empty, .int .i64 5] Tryd.func46 ⟨by kernel_rfl, by kernel_rfl, trivial⟩ ?_
  refine hR _ _ ?_
  have r0 := fault_full (d := d) (by omega)
  exact ⟨by rw [tup_two, r0], S1.nil⟩
 refine J.head (.bool false) (congrArg Value.bool (decide_eq_false fk1)) ?_
 refine J.run 9 K46_4 [(4, .int .i64 0), (1, .pointer (some ⟨b1, 0, none⟩))] w1 (by kernel_rfl) ?_
 have L46_1 : ∀ (mm_ : Nat) (i : Int) (w2 : World), (0 ≤ i) → (i ≤ (d.gFrames_n : Int)) → (∀ j, j < (i).toNat → (frmR d j).2 = 0) → Sep w [box b1 [.slice d.gFrames_a d.gFrames_n d.gFrames_c] 24] w2 → ((d.gFrames_n : Int) - i).toNat = mm_ → J Tryd.prog 46 62 R K46_4 [(4, .int .i64 i), (1, .pointer (some ⟨b1, 0, none⟩))] w2 := by
  intro mm1
  induction mm1 using Nat.strongRecOn with
  | _ mm1 ih1 =>
  intro i w2 h0 h1 hq S2 hm1
  refine J.run 5 K46_5 [(13, .pointer (some ⟨b1, 0, none⟩)), (12, .int .i64 i), (4, .int .i64 i), (1, .pointer (some ⟨b1, 0, none⟩))] w2 (by kernel_rfl) ?_
  refine J.ok (OK.ldBox S2 0 14 22 0 (.slice d.gFrames_a d.gFrames_n d.gFrames_c) (by kernel_rfl) rfl (by kernel_rfl)) ?_
  refine J.run 3 K46_6 [(16, .bool (decide (i < (d.gFrames_n : Int)))), (4, .int .i64 i), (1, .pointer (some ⟨b1, 0, none⟩))] w2 (by kernel_rfl) ?_
  by_cases fk2 : i < (d.gFrames_n : Int)
  rotate_left
  ·skip
   refine J.head (.bool false) (congrArg Value.bool (decide_eq_false fk2)) ?_
   refine J.run 7 K46_31 [(3, .int .i64 0), (2, .string ByteArray.empty)] w2 (by kernel_rfl) ?_
   refine J.ret Tryd.f46 [.string ByteArray.empty, .int .i64 0] Tryd.func46 ⟨by kernel_rfl, by kernel_rfl, trivial⟩ ?_
   refine hR _ _ ?_
   have r0 := fault_none (d := d) (by omega) fun j hj => hq j (by omega)
   exact ⟨by rw [tup_two, r0], S2.nil⟩
  refine J.head (.bool true) (congrArg Value.bool (decide_eq_true fk2)) ?_
  refine J.run 7 K46_7 [(4, .int .i64 i), (1, .pointer (some ⟨b1, 0, none⟩))] w2 (by kernel_rfl) ?_
  refine J.ok (OK.ldBox S2 0 19 24 0 (.agg #[.slice d.gFrames_a d.gFrames_n d.gFrames_c]) (by kernel_rfl) rfl (by kernel_rfl)) ?_
  refine J.run 1 K46_8 [(20, .int .i64 i), (19, .agg #[.slice d.gFrames_a d.gFrames_n d.gFrames_c]), (4, .int .i64 i), (1, .pointer (some ⟨b1, 0, none⟩))] w2 (by kernel_rfl) ?_
  refine J.callF 21 72 #[.agg #[.slice d.gFrames_a d.gFrames_n d.gFrames_c], .int .i64 i] hb72 (by kernel_rfl) (head_any d i _ (dbQ_sep hd S2) (by omega)) ?_
  rintro _ w3 ⟨rfl, T1⟩
  have S3 : Sep w [box b1 [.slice d.gFrames_a d.gFrames_n d.gFrames_c] 24] w3 := S2.trans T1
  clear T1 S2
  refine J.run 7 K46_9 [(23, .bool ((headErr d (i).toNat) != 0)), (5, .int .i64 (headErr d (i).toNat)), (4, .int .i64 i), (1, .pointer (some ⟨b1, 0, none⟩))] w3 (by kernel_rfl) ?_
  by_cases fk3 : (headErr d (i).toNat) = 0
  rotate_left
  ·skip
   refine J.head (.bool true) (congrArg Value.bool (bne_iff_ne.2 fk3)) ?_
   refine J.run 4 K46_27 [(24, .pointer (some ⟨b1, 0, none⟩)), (5, .int .i64 (headErr d (i).toNat)), (4, .int .i64 i)] w3 (by kernel_rfl) ?_
   refine J.ok (OK.ldBox S3 0 25 22 0 (.slice d.gFrames_a d.gFrames_n d.gFrames_c) (by kernel_rfl) rfl (by kernel_rfl)) ?_
   refine J.run 1 K46_28 [(26, .int .i64 i), (25, .slice d.gFrames_a d.gFrames_n d.gFrames_c), (5, .int .i64 (headErr d (i).toNat))] w3 (by kernel_rfl) ?_
   obtain ⟨p3, hp3, hc3⟩ := q2.at frm0 (i).toNat (by omega)
   have hel3 := getD_Q q3 frm0 (n := (i).toNat) (by have := q2.len_eq; omega)
   obtain ⟨q18, q19, q20, q21, q22, q23, _⟩ := id hel3
   have ql3 := q22.len_eq
   refine J.ok (OK.index 27 22 5 d.gFrames_a p3 d.gFrames_n (i).toNat i (p3.add ((i).toNat * 5)) (by kernel_rfl) (by kernel_rfl) hp3 (by omega) (by omega) rfl) ?_
   refine J.run 1 K46_29 [(28, .pointer (some ((p3.add ((i).toNat * 5)).add 0))), (5, .int .i64 (headErr d (i).toNat))] w3 (by kernel_rfl) ?_
   refine J.ok (OK.ldCell 29 9 ((p3.add ((i).toNat * 5)).add 0) (.string ((d.gFrames_l.getD (i).toNat frm0).gName)) (by kernel_rfl) (by kernel_rfl) (S3.cell (hc3 0 _ rfl))) ?_
   refine J.run 4 K46_30 [(3, .int .i64 (headErr d (i).toNat)), (2, .string ((d.gFrames_l.getD (i).toNat frm0).gName))] w3 (by kernel_rfl) ?_
   refine J.ret Tryd.f46 [.string ((d.gFrames_l.getD (i).toNat frm0).gName), .int .i64 (headErr d (i).toNat)] Tryd.func46 ⟨by kernel_rfl, by kernel_rfl, trivial⟩ ?_
   refine hR _ _ ?_
   have r0 := fault_at (d := d) (by omega) (by omega) hq (frm_head rfl fk3) fk3
   exact ⟨by rw [tup_two, r0], S3.nil⟩
  refine J.head (.bool false) (congrArg Value.bool (bne_eq_false_iff_eq.2 fk3)) ?_
  have hhl := hd_len fk3
  refine J.run 8 K46_10 [(6, .int .i64 0), (4, .int .i64 i), (1, .pointer (some ⟨b1, 0, none⟩))] w3 (by kernel_rfl) ?_
  have L46_2 : ∀ (mm_ : Nat) (k : Int) (w4 : World), (0 ≤ k) → (k ≤ ((d.gFrames_l.getD (i).toNat frm0).gSignals_n : Int)) → (∀ j, j < (k).toNat → sigErr (d.gFrames_l.getD (i).toNat frm0) j = 0) → Sep w [box b1 [.slice d.gFrames_a d.gFrames_n d.gFrames_c] 24] w4 → (((d.gFrames_l.getD (i).toNat frm0).gSignals_n : Int) - k).toNat = mm_ → J Tryd.prog 46 62 R K46_10 [(6, .int .i64 k), (4, .int .i64 i), (1, .pointer (some ⟨b1, 0, none⟩))] w4 := by
   intro mm2
   induction mm2 using Nat.strongRecOn with
   | _ mm2 ih2 =>
   intro k w4 k0 k1 hk S4 hm2
   refine J.run 5 K46_11 [(32, .pointer (some ⟨b1, 0, none⟩)), (31, .int .i64 k), (6, .int .i64 k), (4, .int .i64 i), (1, .pointer (some ⟨b1, 0, none⟩))] w4 (by kernel_rfl) ?_
   refine J.ok (OK.ldBox S4 0 33 22 0 (.slice d.gFrames_a d.gFrames_n d.gFrames_c) (by kernel_rfl) rfl (by kernel_rfl)) ?_
   refine J.run 1 K46_12 [(34, .int .i64 i), (33, .slice d.gFrames_a d.gFrames_n d.gFrames_c), (31, .int .i64 k), (6, .int .i64 k), (4, .int .i64 i), (1, .pointer (some ⟨b1, 0, none⟩))] w4 (by kernel_rfl) ?_
   obtain ⟨p1, hp1, hc1⟩ := q2.at frm0 (i).toNat (by omega)
   have hel1 := getD_Q q3 frm0 (n := (i).toNat) (by have := q2.len_eq; omega)
   obtain ⟨q4, q5, q6, q7, q8, q9, _⟩ := id hel1
   have ql2 := q8.len_eq
   refine J.ok (OK.index 35 22 5 d.gFrames_a p1 d.gFrames_n (i).toNat i (p1.add ((i).toNat * 5)) (by kernel_rfl) (by kernel_rfl) hp1 (by omega) (by omega) rfl) ?_
   refine J.run 1 K46_13 [(36, .pointer (some ((p1.add ((i).toNat * 5)).add 4))), (31, .int .i64 k), (6, .int .i64 k), (4, .int .i64 i), (1, .pointer (some ⟨b1, 0, none⟩))] w4 (by kernel_rfl) ?_
   refine J.ok (OK.ldCell 37 32 ((p1.add ((i).toNat * 5)).add 4) (.slice ((d.gFrames_l.getD (i).toNat frm0).gSignals_a) ((d.gFrames_l.getD (i).toNat frm0).gSignals_n) ((d.gFrames_l.getD (i).toNat frm0).gSignals_c)) (by kernel_rfl) (by kernel_rfl) (S4.cell (hc1 4 _ rfl))) ?_
   refine J.run 3 K46_14 [(39, .bool (decide (k < ((d.gFrames_l.getD (i).toNat frm0).gSignals_n : Int)))), (6, .int .i64 k), (4, .int .i64 i), (1, .pointer (some ⟨b1, 0, none⟩))] w4 (by kernel_rfl) ?_
   by_cases fk4 : k < ((d.gFrames_l.getD (i).toNat frm0).gSignals_n : Int)
   rotate_left
   ·skip
    refine J.head (.bool false) (congrArg Value.bool (decide_eq_false fk4)) ?_
    refine J.run 6 K46_26 [(18, .int .i64 (IntKind.wrap .i64 (i + 1))), (1, .pointer (some ⟨b1, 0, none⟩))] w4 (by kernel_rfl) ?_
    refine J.head (.int .i64 (i + 1)) (congrArg (Value.int .i64) (IntWalk.i64_in _ (by omega))) ?_
    refine J.run 3 K46_4 [(4, .int .i64 (i + 1)), (1, .pointer (some ⟨b1, 0, none⟩))] w4 (by kernel_rfl) ?_
    refine J.run 0 K46_4 [(4, .int .i64 (i + 1)), (1, .pointer (some ⟨b1, 0, none⟩))] w4 (by kernel_rfl) ?_
    exact ih1 _ (show ((d.gFrames_n : Int) - (i + 1)).toNat < mm1 from by omega) (i + 1) w4 (by omega) (by omega) (frm_step h0 hq (by rw [frm_sig fk3]; exact sigs_all fun j hj => hk j (by omega))) S4 rfl
   refine J.head (.bool true) (congrArg Value.bool (decide_eq_true fk4)) ?_
   refine J.run 7 K46_15 [(42, .pointer (some ⟨b1, 0, none⟩)), (6, .int .i64 k), (4, .int .i64 i), (1, .pointer (some ⟨b1, 0, none⟩))] w4 (by kernel_rfl) ?_
   refine J.ok (OK.ldBox S4 0 43 22 0 (.slice d.gFrames_a d.gFrames_n d.gFrames_c) (by kernel_rfl) rfl (by kernel_rfl)) ?_
   refine J.run 1 K46_16 [(44, .int .i64 i), (43, .slice d.gFrames_a d.gFrames_n d.gFrames_c), (6, .int .i64 k), (4, .int .i64 i), (1, .pointer (some ⟨b1, 0, none⟩))] w4 (by kernel_rfl) ?_
   refine J.ok (OK.index 45 22 5 d.gFrames_a p1 d.gFrames_n (i).toNat i (p1.add ((i).toNat * 5)) (by kernel_rfl) (by kernel_rfl) hp1 (by omega) (by omega) rfl) ?_
   refine J.ok (OK.ldCells 46 34 (p1.add ((i).toNat * 5)) [.string ((d.gFrames_l.getD (i).toNat frm0).gName), .int .i64 ((d.gFrames_l.getD (i).toNat frm0).gID), .int .i64 ((d.gFrames_l.getD (i).toNat frm0).gLength), .bool ((d.gFrames_l.getD (i).toNat frm0).gGuarded), .slice ((d.gFrames_l.getD (i).toNat frm0).gSignals_a) ((d.gFrames_l.getD (i).toNat frm0).gSignals_n) ((d.gFrames_l.getD (i).toNat frm0).gSignals_c)] (by kernel_rfl) (by kernel_rfl) (by kernel_rfl) (fun j_ v_ hj_ => S4.cell (hc1 j_ v_ hj_))) ?_
   refine J.run 1 K46_17 [(47, .int .i64 k), (46, .agg #[.string ((d.gFrames_l.getD (i).toNat frm0).gName), .int .i64 ((d.gFrames_l.getD (i).toNat frm0).gID), .int .i64 ((d.gFrames_l.getD (i).toNat frm0).gLength), .bool ((d.gFrames_l.getD (i).toNat frm0).gGuarded), .slice ((d.gFrames_l.getD (i).toNat frm0).gSignals_a) ((d.gFrames_l.getD (i).toNat frm0).gSignals_n) ((d.gFrames_l.getD (i).toNat frm0).gSignals_c)]), (6, .int .i64 k), (4, .int .i64 i), (1, .pointer (some ⟨b1, 0, none⟩))] w4 (by kernel_rfl) ?_
   refine J.callF 48 73 #[.agg #[.string ((d.gFrames_l.getD (i).toNat frm0).gName), .int .i64 ((d.gFrames_l.getD (i).toNat frm0).gID), .int .i64 ((d.gFrames_l.getD (i).toNat frm0).gLength), .bool ((d.gFrames_l.getD (i).toNat frm0).gGuarded), .slice ((d.gFrames_l.getD (i).toNat frm0).gSignals_a) ((d.gFrames_l.getD (i).toNat frm0).gSignals_n) ((d.gFrames_l.getD (i).toNat frm0).gSignals_c)], .int .i64 k] hb73 (by kernel_rfl) (part_any (d.gFrames_l.getD (i).toNat frm0) k _ (frmQ_sep hel1 S4) (by omega) (by omega)) ?_
   rintro _ w5 ⟨rfl, T2⟩
   have S5 : Sep w [box b1 [.slice d.gFrames_a d.gFrames_n d.gFrames_c] 24] w5 := S4.trans T2
   clear T2 S4
   refine J.run 7 K46_18 [(50, .bool ((sigErr (d.gFrames_l.getD (i).toNat frm0) (k).toNat) != 0)), (7, .int .i64 (sigErr (d.gFrames_l.getD (i).toNat frm0) (k).toNat)), (6, .int .i64 k), (4, .int .i64 i), (1, .pointer (some ⟨b1, 0, none⟩))] w5 (by kernel_rfl) ?_
   by_cases fk5 : (sigErr (d.gFrames_l.getD (i).toNat frm0) (k).toNat) = 0
   ·skip
    refine J.head (.bool false) (congrArg Value.bool (bne_eq_false_iff_eq.2 fk5)) ?_
    refine J.run 6 K46_19 [(41, .int .i64 (IntKind.wrap .i64 (k + 1))), (4, .int .i64 i), (1, .pointer (some ⟨b1, 0, none⟩))] w5 (by kernel_rfl) ?_
    refine J.head (.int .i64 (k + 1)) (congrArg (Value.int .i64) (IntWalk.i64_in _ (by omega))) ?_
    refine J.run 3 K46_10 [(6, .int .i64 (k + 1)), (4, .int .i64 i), (1, .pointer (some ⟨b1, 0, none⟩))] w5 (by kernel_rfl) ?_
    refine J.run 0 K46_10 [(6, .int .i64 (k + 1)), (4, .int .i64 i), (1, .pointer (some ⟨b1, 0, none⟩))] w5 (by kernel_rfl) ?_
    exact ih2 _ (show (((d.gFrames_l.getD (i).toNat frm0).gSignals_n : Int) - (k + 1)).toNat < mm2 from by omega) (k + 1) w5 (by omega) (by omega) (err_step k0 hk fk5) S5 rfl
   refine J.head (.bool true) (congrArg Value.bool (bne_iff_ne.2 fk5)) ?_
   refine J.run 4 K46_20 [(51, .pointer (some ⟨b1, 0, none⟩)), (7, .int .i64 (sigErr (d.gFrames_l.getD (i).toNat frm0) (k).toNat)), (6, .int .i64 k), (4, .int .i64 i)] w5 (by kernel_rfl) ?_
   refine J.ok (OK.ldBox S5 0 52 22 0 (.slice d.gFrames_a d.gFrames_n d.gFrames_c) (by kernel_rfl) rfl (by kernel_rfl)) ?_
   refine J.run 1 K46_21 [(53, .int .i64 i), (52, .slice d.gFrames_a d.gFrames_n d.gFrames_c), (7, .int .i64 (sigErr (d.gFrames_l.getD (i).toNat frm0) (k).toNat)), (6, .int .i64 k)] w5 (by kernel_rfl) ?_
   refine J.ok (OK.index 54 22 5 d.gFrames_a p1 d.gFrames_n (i).toNat i (p1.add ((i).toNat * 5)) (by kernel_rfl) (by kernel_rfl) hp1 (by omega) (by omega) rfl) ?_
   refine J.run 1 K46_22 [(55, .pointer (some ((p1.add ((i).toNat * 5)).add 4))), (7, .int .i64 (sigErr (d.gFrames_l.getD (i).toNat frm0) (k).toNat)), (6, .int .i64 k)] w5 (by kernel_rfl) ?_
   refine J.ok (OK.ldCell 56 32 ((p1.add ((i).toNat * 5)).add 4) (.slice ((d.gFrames_l.getD (i).toNat frm0).gSignals_a) ((d.gFrames_l.getD (i).toNat frm0).gSignals_n) ((d.gFrames_l.getD (i).toNat frm0).gSignals_c)) (by kernel_rfl) (by kernel_rfl) (S5.cell (hc1 4 _ rfl))) ?_
   refine J.run 1 K46_23 [(57, .int .i64 k), (56, .slice ((d.gFrames_l.getD (i).toNat frm0).gSignals_a) ((d.gFrames_l.getD (i).toNat frm0).gSignals_n) ((d.gFrames_l.getD (i).toNat frm0).gSignals_c)), (7, .int .i64 (sigErr (d.gFrames_l.getD (i).toNat frm0) (k).toNat))] w5 (by kernel_rfl) ?_
   obtain ⟨p2, hp2, hc2⟩ := q8.at sig0 (k).toNat (by omega)
   have hel2 := getD_Q q9 sig0 (n := (k).toNat) (by have := q8.len_eq; omega)
   obtain ⟨q10, q11, q12, q13, q14, q15, q16, q17, _⟩ := id hel2
   refine J.ok (OK.index 58 32 10 ((d.gFrames_l.getD (i).toNat frm0).gSignals_a) p2 ((d.gFrames_l.getD (i).toNat frm0).gSignals_n) (k).toNat k (p2.add ((k).toNat * 10)) (by kernel_rfl) (by kernel_rfl) hp2 (by omega) (by omega) rfl) ?_
   refine J.run 1 K46_24 [(59, .pointer (some ((p2.add ((k).toNat * 10)).add 0))), (7, .int .i64 (sigErr (d.gFrames_l.getD (i).toNat frm0) (k).toNat))] w5 (by kernel_rfl) ?_
   refine J.ok (OK.ldCell 60 9 ((p2.add ((k).toNat * 10)).add 0) (.string ((((d.gFrames_l.getD (i).toNat frm0).gSignals_l).getD (k).toNat sig0).gName)) (by kernel_rfl) (by kernel_rfl) (S5.cell (hc2 0 _ rfl))) ?_
   refine J.run 4 K46_25 [(3, .int .i64 (sigErr (d.gFrames_l.getD (i).toNat frm0) (k).toNat)), (2, .string ((((d.gFrames_l.getD (i).toNat frm0).gSignals_l).getD (k).toNat sig0).gName))] w5 (by kernel_rfl) ?_
   refine J.ret Tryd.f46 [.string ((((d.gFrames_l.getD (i).toNat frm0).gSignals_l).getD (k).toNat sig0).gName), .int .i64 (sigErr (d.gFrames_l.getD (i).toNat frm0) (k).toNat)] Tryd.func46 ⟨by kernel_rfl, by kernel_rfl, trivial⟩ ?_
   refine hR _ _ ?_
   obtain ⟨r1, r2⟩ := sigs_at (f := d.gFrames_l.getD (i).toNat frm0) (k := k.toNat) (by omega) hk rfl fk5
   have r0 := fault_at (d := d) (by omega) (by omega) hq (frm_sig fk3) (by rw [r2]; exact fk5)
   exact ⟨by rw [tup_two, r0, r1, r2], S5.nil⟩
  exact L46_2 _ 0 w3 (by omega) (by omega) (by intro j hj; simp at hj) S3 rfl
 exact L46_1 _ 0 w1 (by omega) (by omega) (by intro j hj; simp at hj) S1 rfl

end
end Go.Proofs.YthiklimfffhbaaaDoor

