/- Walks of functions of this seat, printed by a program over the engine. Conditions: as each theorem says. -/
import Derived.Test.YthiklimfffhbaaaDoorZtS12
namespace Go.Proofs.YthiklimfffhbaaaDoor
open Go.Eng Go.RowKit
set_option linter.unusedSimpArgs false
set_option linter.unusedVariables false
noncomputable def K11a_0 : List Item := adv 2 [] (bodyOf Tryd.f11)
noncomputable def K11a_1 : List Item := adv 6 [] (popK (popK K11a_0))
noncomputable def K11a_2 : List Item := adv 5 [] (popK K11a_1)
noncomputable def K11a_3 : List Item := adv 5 [] K11a_2
noncomputable def K11a_4 : List Item := adv 6 [true] K11a_3
noncomputable def K11a_5 : List Item := adv 4 [] (popK (popK (popK (popK K11a_4))))
noncomputable def K11a_6 : List Item := adv 3 [] (popK K11a_5)
noncomputable def K11a_7 : List Item := adv 3 [true] K11a_6
noncomputable def K11a_8 : List Item := adv 2 [] (popK (popK K11a_7))
noncomputable def K11a_9 : List Item := adv 5 [false] K11a_6
noncomputable def K11a_10 : List Item := adv 5 [false] K11a_3
noncomputable def K11a_11 : List Item := adv 2 [] (popK K11a_10)
set_option maxRecDepth 20000 in
set_option maxHeartbeats 20000000 in
theorem frame_any (d : Db) (x : Int) (w : World) (hd : dbQ w d) : Ret Tryd.prog 11 #[.agg #[.slice d.gFrames_a d.gFrames_n d.gFrames_c], iv x] w (fun v w' => v = .tuple #[.agg #[.string ((frF d x).gName), iv ((frF d x).gID), iv ((frF d x).gLength), .bool ((frF d x).gGuarded), .slice ((frF d x).gSignals_a) ((frF d x).gSignals_n) ((frF d x).gSignals_c)], .bool (frO d x)] ∧ Sep w [] w') := by
 have S0 := Sep.refl w
 refine Ret.named fun R hR => ?_
 refine Ret.of_J (N := 22) [(0, .agg #[.slice d.gFrames_a d.gFrames_n d.gFrames_c]), (1, iv x)] Tryd.func11 rfl rfl (Nat.le_of_ble_eq_true (by kernel_rfl)) (by kernel_rfl) ?_
 obtain ⟨q1, q2, q3, _⟩ := id hd
 have ql1 := q2.len_eq
 refine J.run 2 K11a_0 [(0, .agg #[.slice d.gFrames_a d.gFrames_n d.gFrames_c]), (1, iv x)] w (by kernel_rfl) ?_
 refine J.new S0 2 [.slice d.gFrames_a d.gFrames_n d.gFrames_c] 24 (by kernel_rfl) ?_
 intro b1 w1 S1
 refine J.new S1 4 [.string ByteArray.empty, iv 0, iv 0, .bool false, .slice none 0 0] 34 (by kernel_rfl) ?_
 intro b2 w2 S2
 refine J.run 6 K11a_1 [(8, .pointer (some ⟨b1, 0, none⟩)), (4, .pointer (some ⟨b2, 0, none⟩)), (1, iv x)] w2 (by kernel_rfl) ?_
 refine J.ok (OK.ldBox S2 1 9 22 0 (.slice d.gFrames_a d.gFrames_n d.gFrames_c) (by kernel_rfl) rfl (by kernel_rfl)) ?_
 refine J.run 5 K11a_2 [(11, iv 0), (10, iv (d.gFrames_n : Int)), (9, .slice d.gFrames_a d.gFrames_n d.gFrames_c), (4, .pointer (some ⟨b2, 0, none⟩)), (1, iv x)] w2 (by kernel_rfl) ?_
 have L11_1 : ∀ (mm_ : Nat) (i : Int) (w3 : World), (0 ≤ i) → (i ≤ (d.gFrames_n : Int)) → (∀ k, k < (i).toNat → (d.gFrames_l.getD k frm0).gID ≠ x) → Sep w [box b2 [.string ByteArray.empty, iv 0, iv 0, .bool false, .slice none 0 0] 34, box b1 [.slice d.gFrames_a d.gFrames_n d.gFrames_c] 24] w3 → ((d.gFrames_n : Int) - i).toNat = mm_ → J Tryd.prog 11 22 R K11a_2 [(11, iv i), (10, iv (d.gFrames_n : Int)), (9, .slice d.gFrames_a d.gFrames_n d.gFrames_c), (4, .pointer (some ⟨b2, 0, none⟩)), (1, iv x)] w3 := by
  intro mm1
  induction mm1 using Nat.strongRecOn with
  | _ mm1 ih1 =>
  intro i w3 h0 h1 hq S3 hm1
  refine J.run 5 K11a_3 [(12, .bool (decide (i < (d.gFrames_n : Int)))), (11, iv i), (10, iv (d.gFrames_n : Int)), (9, .slice d.gFrames_a d.gFrames_n d.gFrames_c), (4, .pointer (some ⟨b2, 0, none⟩)), (1, iv x)] w3 (by kernel_rfl) ?_
  by_cases fk1 : i < (d.gFrames_n : Int)
  ·skip
   refine J.head (.bool true) (congrArg Value.bool (decide_eq_true fk1)) ?_
   refine J.run 6 K11a_4 [(11, iv i), (10, iv (d.gFrames_n : Int)), (9, .slice d.gFrames_a d.gFrames_n d.gFrames_c), (4, .pointer (some ⟨b2, 0, none⟩)), (1, iv x)] w3 (by kernel_rfl) ?_
   obtain ⟨p1, hp1, hc1⟩ := q2.at frm0 (i).toNat (by omega)
   have hel1 := getD_Q q3 frm0 (n := (i).toNat) (by have := q2.len_eq; omega)
   obtain ⟨q4, q5, q6, q7, q8, q9, _⟩ := id hel1
   have ql2 := q8.len_eq
   refine J.ok (OK.index 13 22 5 d.gFrames_a p1 d.gFrames_n (i).toNat i (p1.add ((i).toNat * 5)) (by kernel_rfl) (by kernel_rfl) hp1 (by omega) (by omega) rfl) ?_
   refine J.ok (OK.ldCells 14 34 (p1.add ((i).toNat * 5)) [.string ((d.gFrames_l.getD (i).toNat frm0).gName), iv ((d.gFrames_l.getD (i).toNat frm0).gID), iv ((d.gFrames_l.getD (i).toNat frm0).gLength), .bool ((d.gFrames_l.getD (i).toNat frm0).gGuarded), .slice ((d.gFrames_l.getD (i).toNat frm0).gSignals_a) ((d.gFrames_l.getD (i).toNat frm0).gSignals_n) ((d.gFrames_l.getD (i).toNat frm0).gSignals_c)] (by kernel_rfl) (by kernel_rfl) (by kernel_rfl) (fun j_ v_ hj_ => S3.cell (hc1 j_ v_ hj_))) ?_
   refine J.new S3 7 [.string ByteArray.empty, iv 0, iv 0, .bool false, .slice none 0 0] 34 (by kernel_rfl) ?_
   intro b3 w4 S4
   refine J.stBox S4 0 34 0 (.agg #[.string ((d.gFrames_l.getD (i).toNat frm0).gName), iv ((d.gFrames_l.getD (i).toNat frm0).gID), iv ((d.gFrames_l.getD (i).toNat frm0).gLength), .bool ((d.gFrames_l.getD (i).toNat frm0).gGuarded), .slice ((d.gFrames_l.getD (i).toNat frm0).gSignals_a) ((d.gFrames_l.getD (i).toNat frm0).gSignals_n) ((d.gFrames_l.getD (i).toNat frm0).gSignals_c)]) [.string ((d.gFrames_l.getD (i).toNat frm0).gName), iv ((d.gFrames_l.getD (i).toNat frm0).gID), iv ((d.gFrames_l.getD (i).toNat frm0).gLength), .bool ((d.gFrames_l.getD (i).toNat frm0).gGuarded), .slice ((d.gFrames_l.getD (i).toNat frm0).gSignals_a) ((d.gFrames_l.getD (i).toNat frm0).gSignals_n) ((d.gFrames_l.getD (i).toNat frm0).gSignals_c)] [box b3 [.string ((d.gFrames_l.getD (i).toNat frm0).gName), iv ((d.gFrames_l.getD (i).toNat frm0).gID), iv ((d.gFrames_l.getD (i).toNat frm0).gLength), .bool ((d.gFrames_l.getD (i).toNat frm0).gGuarded), .slice ((d.gFrames_l.getD (i).toNat frm0).gSignals_a) ((d.gFrames_l.getD (i).toNat frm0).gSignals_n) ((d.gFrames_l.getD (i).toNat frm0).gSignals_c)] 34, box b2 [.string ByteArray.empty, iv 0, iv 0, .bool false, .slice none 0 0] 34, box b1 [.slice d.gFrames_a d.gFrames_n d.gFrames_c] 24] (by kernel_rfl) rfl (by kernel_rfl) (by kernel_rfl) rfl ?_
   intro w5 S5
   refine J.run 4 K11a_5 [(15, .pointer (some ⟨b3, 1, none⟩)), (7, .pointer (some ⟨b3, 0, none⟩)), (11, iv i), (10, iv (d.gFrames_n : Int)), (9, .slice d.gFrames_a d.gFrames_n d.gFrames_c), (4, .pointer (some ⟨b2, 0, none⟩)), (1, iv x)] w5 (by kernel_rfl) ?_
   refine J.ok (OK.ldBox S5 0 16 3 1 (iv ((d.gFrames_l.getD (i).toNat frm0).gID)) (by kernel_rfl) rfl (by kernel_rfl)) ?_
   refine J.run 3 K11a_6 [(18, .bool (((d.gFrames_l.getD (i).toNat frm0).gID) == x)), (7, .pointer (some ⟨b3, 0, none⟩)), (11, iv i), (10, iv (d.gFrames_n : Int)), (9, .slice d.gFrames_a d.gFrames_n d.gFrames_c), (4, .pointer (some ⟨b2, 0, none⟩)), (1, iv x)] w5 (by kernel_rfl) ?_
   by_cases fk2 : ((d.gFrames_l.getD (i).toNat frm0).gID) = x
   ·skip
    refine J.head (.bool true) (congrArg Value.bool (beq_iff_eq.2 fk2)) ?_
    refine J.run 3 K11a_7 [(7, .pointer (some ⟨b3, 0, none⟩)), (4, .pointer (some ⟨b2, 0, none⟩))] w5 (by kernel_rfl) ?_
    refine J.ok (OK.ldBox S5 0 19 34 0 (.agg #[.string ((d.gFrames_l.getD (i).toNat frm0).gName), iv ((d.gFrames_l.getD (i).toNat frm0).gID), iv ((d.gFrames_l.getD (i).toNat frm0).gLength), .bool ((d.gFrames_l.getD (i).toNat frm0).gGuarded), .slice ((d.gFrames_l.getD (i).toNat frm0).gSignals_a) ((d.gFrames_l.getD (i).toNat frm0).gSignals_n) ((d.gFrames_l.getD (i).toNat frm0).gSignals_c)]) (by kernel_rfl) rfl (by kernel_rfl)) ?_
    refine J.stBox S5 1 34 0 (.agg #[.string ((d.gFrames_l.getD (i).toNat frm0).gName), iv ((d.gFrames_l.getD (i).toNat frm0).gID), iv ((d.gFrames_l.getD (i).toNat frm0).gLength), .bool ((d.gFrames_l.getD (i).toNat frm0).gGuarded), .slice ((d.gFrames_l.getD (i).toNat frm0).gSignals_a) ((d.gFrames_l.getD (i).toNat frm0).gSignals_n) ((d.gFrames_l.getD (i).toNat frm0).gSignals_c)]) [.string ((d.gFrames_l.getD (i).toNat frm0).gName), iv ((d.gFrames_l.getD (i).toNat frm0).gID), iv ((d.gFrames_l.getD (i).toNat frm0).gLength), .bool ((d.gFrames_l.getD (i).toNat frm0).gGuarded), .slice ((d.gFrames_l.getD (i).toNat frm0).gSignals_a) ((d.gFrames_l.getD (i).toNat frm0).gSignals_n) ((d.gFrames_l.getD (i).toNat frm0).gSignals_c)] [box b3 [.string ((d.gFrames_l.getD (i).toNat frm0).gName), iv ((d.gFrames_l.getD (i).toNat frm0).gID), iv ((d.gFrames_l.getD (i).toNat frm0).gLength), .bool ((d.gFrames_l.getD (i).toNat frm0).gGuarded), .slice ((d.gFrames_l.getD (i).toNat frm0).gSignals_a) ((d.gFrames_l.getD (i).toNat frm0).gSignals_n) ((d.gFrames_l.getD (i).toNat frm0).gSignals_c)] 34, box b2 [.string ((d.gFrames_l.getD (i).toNat frm0).gName), iv ((d.gFrames_l.getD (i).toNat frm0).gID), iv ((d.gFrames_l.getD (i).toNat frm0).gLength), .bool ((d.gFrames_l.getD (i).toNat frm0).gGuarded), .slice ((d.gFrames_l.getD (i).toNat frm0).gSignals_a) ((d.gFrames_l.getD (i).toNat frm0).gSignals_n) ((d.gFrames_l.getD (i).toNat frm0).gSignals_c)] 34, box b1 [.slice d.gFrames_a d.gFrames_n d.gFrames_c] 24] (by kernel_rfl) rfl (by kernel_rfl) (by kernel_rfl) rfl ?_
    intro w6 S6
    refine J.run 2 K11a_8 [(5, .bool true), (4, .pointer (some ⟨b2, 0, none⟩))] w6 (by kernel_rfl) ?_
    refine J.ret Tryd.f11 [.agg #[.string ((d.gFrames_l.getD (i).toNat frm0).gName), iv ((d.gFrames_l.getD (i).toNat frm0).gID), iv ((d.gFrames_l.getD (i).toNat frm0).gLength), .bool ((d.gFrames_l.getD (i).toNat frm0).gGuarded), .slice ((d.gFrames_l.getD (i).toNat frm0).gSignals_a) ((d.gFrames_l.getD (i).toNat frm0).gSignals_n) ((d.gFrames_l.getD (i).toNat frm0).gSignals_c)], .bool true] Tryd.func11 ⟨⟨⟨b2, 0, none⟩, by kernel_rfl, ldV_run (S6.nth 1 rfl) (by kernel_rfl)⟩, by kernel_rfl, trivial⟩ ?_
    refine hR _ _ ?_
    obtain ⟨e1, e2⟩ := fr_some (d := d) (x := x) (i := i.toNat) (by omega) (fun j hj => beq_eq_false_iff_ne.2 (hq j hj)) (beq_iff_eq.2 (by omega))
    exact ⟨by rw [e1, e2]; rfl, S6.nil⟩
   ·skip
    refine J.head (.bool false) (congrArg Value.bool (beq_eq_false_iff_ne.2 fk2)) ?_
    refine J.run 5 K11a_9 [(20, iv (IntKind.wrap .i64 (i + 1))), (10, iv (d.gFrames_n : Int)), (9, .slice d.gFrames_a d.gFrames_n d.gFrames_c), (4, .pointer (some ⟨b2, 0, none⟩)), (1, iv x)] w5 (by kernel_rfl) ?_
    refine J.head (iv (i + 1)) (congrArg (Value.int .i64) (IntWalk.i64_in _ (by omega))) ?_
    refine J.run 3 K11a_2 [(11, iv (i + 1)), (10, iv (d.gFrames_n : Int)), (9, .slice d.gFrames_a d.gFrames_n d.gFrames_c), (4, .pointer (some ⟨b2, 0, none⟩)), (1, iv x)] w5 (by kernel_rfl) ?_
    have S7 : Sep w [box b2 [.string ByteArray.empty, iv 0, iv 0, .bool false, .slice none 0 0] 34, box b1 [.slice d.gFrames_a d.gFrames_n d.gFrames_c] 24] w5 := S5.erase 0
    clear S5
    refine J.run 0 K11a_2 [(11, iv (i + 1)), (10, iv (d.gFrames_n : Int)), (9, .slice d.gFrames_a d.gFrames_n d.gFrames_c), (4, .pointer (some ⟨b2, 0, none⟩)), (1, iv x)] w5 (by kernel_rfl) ?_
    exact ih1 _ (show ((d.gFrames_n : Int) - (i + 1)).toNat < mm1 from by omega) (i + 1) w5 (by omega) (by omega) (dg_step (q := fun k => (d.gFrames_l.getD k frm0).gID ≠ x) h0 hq (by omega)) S7 rfl
  ·skip
   refine J.head (.bool false) (congrArg Value.bool (decide_eq_false fk1)) ?_
   refine J.run 5 K11a_10 [(21, .agg #[.string ByteArray.empty, iv 0, iv 0, .bool false, .slice none 0 0]), (4, .pointer (some ⟨b2, 0, none⟩))] w3 (by kernel_rfl) ?_
   refine J.stBox S3 0 34 0 (.agg #[.string ByteArray.empty, iv 0, iv 0, .bool false, .slice none 0 0]) [.string ByteArray.empty, iv 0, iv 0, .bool false, .slice none 0 0] [box b2 [.string ByteArray.empty, iv 0, iv 0, .bool false, .slice none 0 0] 34, box b1 [.slice d.gFrames_a d.gFrames_n d.gFrames_c] 24] (by kernel_rfl) rfl (by kernel_rfl) (by kernel_rfl) rfl ?_
   intro w7 S8
   refine J.run 2 K11a_11 [(5, .bool false), (4, .pointer (some ⟨b2, 0, none⟩))] w7 (by kernel_rfl) ?_
   refine J.ret Tryd.f11 [.agg #[.string ByteArray.empty, iv 0, iv 0, .bool false, .slice none 0 0], .bool false] Tryd.func11 ⟨⟨⟨b2, 0, none⟩, by kernel_rfl, ldV_run (S8.nth 0 rfl) (by kernel_rfl)⟩, by kernel_rfl, trivial⟩ ?_
   refine hR _ _ ?_
   obtain ⟨e1, e2⟩ := fr_none (d := d) (x := x) (fun j hj => beq_eq_false_iff_ne.2 (hq j (by omega)))
   exact ⟨by rw [e1, e2]; rfl, S8.nil⟩
 exact L11_1 _ 0 w2 (by omega) (by omega) (by intro k hk; simp at hk) S2 rfl

theorem hb12 : HasBody Tryd.prog 12 := fun _ _ => by kernel_rfl
noncomputable def K12_0 : List Item := adv 2 [] (bodyOf Tryd.f12)
noncomputable def K12_1 : List Item := adv 9 [] (popK (popK K12_0))
noncomputable def K12_2 : List Item := adv 5 [] K12_1
noncomputable def K12_3 : List Item := adv 3 [] (popK K12_2)
noncomputable def K12_4 : List Item := adv 7 [true] K12_3
noncomputable def K12_5 : List Item := adv 1 [] (popK K12_4)
noncomputable def K12_6 : List Item := adv 1 [] (popK K12_5)
noncomputable def K12_7 : List Item := adv 3 [] (popK K12_6)
noncomputable def K12_8 : List Item := adv 4 [true] K12_7
noncomputable def K12_9 : List Item := adv 1 [] (popK K12_8)
noncomputable def K12_10 : List Item := adv 2 [] (popK (popK (popK K12_9)))
noncomputable def K12_11 : List Item := adv 6 [false] K12_7
noncomputable def K12_12 : List Item := adv 5 [false] K12_3
noncomputable def K12_13 : List Item := adv 2 [] (popK K12_12)
set_option maxRecDepth 20000 in
set_option maxHeartbeats 20000000 in
theorem rframe_any (d : Db) (x : Int) (w : World) (hd : dbQ w d) : Ret Tryd.prog 12 #[.agg #[.slice d.gFrames_a d.gFrames_n d.gFrames_c], iv x] w (fun v w' => v = .tuple #[.agg #[.string ((frF d x).gName), iv ((frF d x).gID), iv ((frF d x).gLength), .bool ((frF d x).gGuarded), .slice ((frF d x).gSignals_a) ((frF d x).gSignals_n) ((frF d x).gSignals_c)], .bool (frO d x)] ∧ Sep w [] w') := by
 have S0 := Sep.refl w
 refine Ret.named fun R hR => ?_
 refine Ret.of_J (N := 28) [(0, .agg #[.slice d.gFrames_a d.gFrames_n d.gFrames_c]), (1, iv x)] Tryd.func12 rfl rfl (Nat.le_of_ble_eq_true (by kernel_rfl)) (by kernel_rfl) ?_
 obtain ⟨q1, q2, q3, _⟩ := id hd
 have ql1 := q2.len_eq
 refine J.run 2 K12_0 [(0, .agg #[.slice d.gFrames_a d.gFrames_n d.gFrames_c]), (1, iv x)] w (by kernel_rfl) ?_
 refine J.new S0 2 [.slice d.gFrames_a d.gFrames_n d.gFrames_c] 24 (by kernel_rfl) ?_
 intro b1 w1 S1
 refine J.new S1 4 [.string ByteArray.empty, iv 0, iv 0, .bool false, .slice none 0 0] 34 (by kernel_rfl) ?_
 intro b2 w2 S2
 refine J.run 9 K12_1 [(6, iv 0), (4, .pointer (some ⟨b2, 0, none⟩)), (2, .pointer (some ⟨b1, 0, none⟩)), (1, iv x)] w2 (by kernel_rfl) ?_
 have L12_1 : ∀ (mm_ : Nat) (i : Int) (w3 : World), (0 ≤ i) → (i ≤ (d.gFrames_n : Int)) → (∀ k, k < (i).toNat → (d.gFrames_l.getD k frm0).gID ≠ x) → Sep w [box b2 [.string ByteArray.empty, iv 0, iv 0, .bool false, .slice none 0 0] 34, box b1 [.slice d.gFrames_a d.gFrames_n d.gFrames_c] 24] w3 → ((d.gFrames_n : Int) - i).toNat = mm_ → J Tryd.prog 12 28 R K12_1 [(6, iv i), (4, .pointer (some ⟨b2, 0, none⟩)), (2, .pointer (some ⟨b1, 0, none⟩)), (1, iv x)] w3 := by
  intro mm1
  induction mm1 using Nat.strongRecOn with
  | _ mm1 ih1 =>
  intro i w3 h0 h1 hq S3 hm1
  refine J.run 5 K12_2 [(8, .pointer (some ⟨b1, 0, none⟩)), (7, iv i), (6, iv i), (4, .pointer (some ⟨b2, 0, none⟩)), (2, .pointer (some ⟨b1, 0, none⟩)), (1, iv x)] w3 (by kernel_rfl) ?_
  refine J.ok (OK.ldBox S3 1 9 22 0 (.slice d.gFrames_a d.gFrames_n d.gFrames_c) (by kernel_rfl) rfl (by kernel_rfl)) ?_
  refine J.run 3 K12_3 [(11, .bool (decide (i < (d.gFrames_n : Int)))), (6, iv i), (4, .pointer (some ⟨b2, 0, none⟩)), (2, .pointer (some ⟨b1, 0, none⟩)), (1, iv x)] w3 (by kernel_rfl) ?_
  by_cases fk1 : i < (d.gFrames_n : Int)
  ·skip
   refine J.head (.bool true) (congrArg Value.bool (decide_eq_true fk1)) ?_
   refine J.run 7 K12_4 [(14, .pointer (some ⟨b1, 0, none⟩)), (6, iv i), (4, .pointer (some ⟨b2, 0, none⟩)), (2, .pointer (some ⟨b1, 0, none⟩)), (1, iv x)] w3 (by kernel_rfl) ?_
   refine J.ok (OK.ldBox S3 1 15 22 0 (.slice d.gFrames_a d.gFrames_n d.gFrames_c) (by kernel_rfl) rfl (by kernel_rfl)) ?_
   refine J.run 1 K12_5 [(16, iv i), (15, .slice d.gFrames_a d.gFrames_n d.gFrames_c), (6, iv i), (4, .pointer (some ⟨b2, 0, none⟩)), (2, .pointer (some ⟨b1, 0, none⟩)), (1, iv x)] w3 (by kernel_rfl) ?_
   obtain ⟨p1, hp1, hc1⟩ := q2.at frm0 (i).toNat (by omega)
   have hel1 := getD_Q q3 frm0 (n := (i).toNat) (by have := q2.len_eq; omega)
   obtain ⟨q4, q5, q6, q7, q8, q9, _⟩ := id hel1
   have ql2 := q8.len_eq
   refine J.ok (OK.index 17 22 5 d.gFrames_a p1 d.gFrames_n (i).toNat i (p1.add ((i).toNat * 5)) (by kernel_rfl) (by kernel_rfl) hp1 (by omega) (by omega) rfl) ?_
   refine J.run 1 K12_6 [(18, .pointer (some ((p1.add ((i).toNat * 5)).add 1))), (6, iv i), (4, .pointer (some ⟨b2, 0, none⟩)), (2, .pointer (some ⟨b1, 0, none⟩)), (1, iv x)] w3 (by kernel_rfl) ?_
   refine J.ok (OK.ldCell 19 3 ((p1.add ((i).toNat * 5)).add 1) (iv ((d.gFrames_l.getD (i).toNat frm0).gID)) (by kernel_rfl) (by kernel_rfl) (S3.cell (hc1 1 _ rfl))) ?_
   refine J.run 3 K12_7 [(21, .bool (((d.gFrames_l.getD (i).toNat frm0).gID) == x)), (6, iv i), (4, .pointer (some ⟨b2, 0, none⟩)), (2, .pointer (some ⟨b1, 0, none⟩)), (1, iv x)] w3 (by kernel_rfl) ?_
   by_cases fk2 : ((d.gFrames_l.getD (i).toNat frm0).gID) = x
   ·skip
    refine J.head (.bool true) (congrArg Value.bool (beq_iff_eq.2 fk2)) ?_
    refine J.run 4 K12_8 [(22, .pointer (some ⟨b1, 0, none⟩)), (6, iv i), (4, .pointer (some ⟨b2, 0, none⟩))] w3 (by kernel_rfl) ?_
    refine J.ok (OK.ldBox S3 1 23 22 0 (.slice d.gFrames_a d.gFrames_n d.gFrames_c) (by kernel_rfl) rfl (by kernel_rfl)) ?_
    refine J.run 1 K12_9 [(24, iv i), (23, .slice d.gFrames_a d.gFrames_n d.gFrames_c), (4, .pointer (some ⟨b2, 0, none⟩))] w3 (by kernel_rfl) ?_
    refine J.ok (OK.index 25 22 5 d.gFrames_a p1 d.gFrames_n (i).toNat i (p1.add ((i).toNat * 5)) (by kernel_rfl) (by kernel_rfl) hp1 (by omega) (by omega) rfl) ?_
    refine J.ok (OK.ldCells 26 34 (p1.add ((i).toNat * 5)) [.string ((d.gFrames_l.getD (i).toNat frm0).gName), iv ((d.gFrames_l.getD (i).toNat frm0).gID), iv ((d.gFrames_l.getD (i).toNat frm0).gLength), .bool ((d.gFrames_l.getD (i).toNat frm0).gGuarded), .slice ((d.gFrames_l.getD (i).toNat frm0).gSignals_a) ((d.gFrames_l.getD (i).toNat frm0).gSignals_n) ((d.gFrames_l.getD (i).toNat frm0).gSignals_c)] (by kernel_rfl) (by kernel_rfl) (by kernel_rfl) (fun j_ v_ hj_ => S3.cell (hc1 j_ v_ hj_))) ?_
    refine J.stBox S3 0 34 0 (.agg #[.string ((d.gFrames_l.getD (i).toNat frm0).gName), iv ((d.gFrames_l.getD (i).toNat frm0).gID), iv ((d.gFrames_l.getD (i).toNat frm0).gLength), .bool ((d.gFrames_l.getD (i).toNat frm0).gGuarded), .slice ((d.gFrames_l.getD (i).toNat frm0).gSignals_a) ((d.gFrames_l.getD (i).toNat frm0).gSignals_n) ((d.gFrames_l.getD (i).toNat frm0).gSignals_c)]) [.string ((d.gFrames_l.getD (i).toNat frm0).gName), iv ((d.gFrames_l.getD (i).toNat frm0).gID), iv ((d.gFrames_l.getD (i).toNat frm0).gLength), .bool ((d.gFrames_l.getD (i).toNat frm0).gGuarded), .slice ((d.gFrames_l.getD (i).toNat frm0).gSignals_a) ((d.gFrames_l.getD (i).toNat frm0).gSignals_n) ((d.gFrames_l.getD (i).toNat frm0).gSignals_c)] [box b2 [.string ((d.gFrames_l.getD (i).toNat frm0).gName), iv ((d.gFrames_l.getD (i).toNat frm0).gID), iv ((d.gFrames_l.getD (i).toNat frm0).gLength), .bool ((d.gFrames_l.getD (i).toNat frm0).gGuarded), .slice ((d.gFrames_l.getD (i).toNat frm0).gSignals_a) ((d.gFrames_l.getD (i).toNat frm0).gSignals_n) ((d.gFrames_l.getD (i).toNat frm0).gSignals_c)] 34, box b1 [.slice d.gFrames_a d.gFrames_n d.gFrames_c] 24] (by kernel_rfl) rfl (by kernel_rfl) (by kernel_rfl) rfl ?_
    intro w4 S4
    refine J.run 2 K12_10 [(5, .bool true), (4, .pointer (some ⟨b2, 0, none⟩))] w4 (by kernel_rfl) ?_
    refine J.ret Tryd.f12 [.agg #[.string ((d.gFrames_l.getD (i).toNat frm0).gName), iv ((d.gFrames_l.getD (i).toNat frm0).gID), iv ((d.gFrames_l.getD (i).toNat frm0).gLength), .bool ((d.gFrames_l.getD (i).toNat frm0).gGuarded), .slice ((d.gFrames_l.getD (i).toNat frm0).gSignals_a) ((d.gFrames_l.getD (i).toNat frm0).gSignals_n) ((d.gFrames_l.getD (i).toNat frm0).gSignals_c)], .bool true] Tryd.func12 ⟨⟨⟨b2, 0, none⟩, by kernel_rfl, ldV_run (S4.nth 0 rfl) (by kernel_rfl)⟩, by kernel_rfl, trivial⟩ ?_
    refine hR _ _ ?_
    obtain ⟨e1, e2⟩ := fr_some (d := d) (x := x) (i := i.toNat) (by omega) (fun j hj => beq_eq_false_iff_ne.2 (hq j hj)) (beq_iff_eq.2 (by omega))
    exact ⟨by rw [e1, e2]; rfl, S4.nil⟩
   ·skip
    refine J.head (.bool false) (congrArg Value.bool (beq_eq_false_iff_ne.2 fk2)) ?_
    refine J.run 6 K12_11 [(13, iv (IntKind.wrap .i64 (i + 1))), (4, .pointer (some ⟨b2, 0, none⟩)), (2, .pointer (some ⟨b1, 0, none⟩)), (1, iv x)] w3 (by kernel_rfl) ?_
    refine J.head (iv (i + 1)) (congrArg (Value.int .i64) (IntWalk.i64_in _ (by omega))) ?_
    refine J.run 3 K12_1 [(6, iv (i + 1)), (4, .pointer (some ⟨b2, 0, none⟩)), (2, .pointer (some ⟨b1, 0, none⟩)), (1, iv x)] w3 (by kernel_rfl) ?_
    refine J.run 0 K12_1 [(6, iv (i + 1)), (4, .pointer (some ⟨b2, 0, none⟩)), (2, .pointer (some ⟨b1, 0, none⟩)), (1, iv x)] w3 (by kernel_rfl) ?_
    exact ih1 _ (show ((d.gFrames_n : Int) - (i + 1)).toNat < mm1 from by omega) (i + 1) w3 (by omega) (by omega) (dg_step (q := fun k => (d.gFrames_l.getD k frm0).gID ≠ x) h0 hq (by omega)) S3 rfl
  ·skip
   refine J.head (.bool false) (congrArg Value.bool (decide_eq_false fk1)) ?_
   refine J.run 5 K12_12 [(27, .agg #[.string ByteArray.empty, iv 0, iv 0, .bool false, .slice none 0 0]), (4, .pointer (some ⟨b2, 0, none⟩))] w3 (by kernel_rfl) ?_
   refine J.stBox S3 0 34 0 (.agg #[.string ByteArray.empty, iv 0, iv 0, .bool false, .slice none 0 0]) [.string ByteArray.empty, iv 0, iv 0, .bool false, .slice none 0 0] [box b2 [.string ByteArray.empty, iv 0, iv 0, .bool false, .slice none 0 0] 34, box b1 [.slice d.gFrames_a d.gFrames_n d.gFrames_c] 24] (by kernel_rfl) rfl (by kernel_rfl) (by kernel_rfl) rfl ?_
   intro w5 S5
   refine J.run 2 K12_13 [(5, .bool false), (4, .pointer (some ⟨b2, 0, none⟩))] w5 (by kernel_rfl) ?_
   refine J.ret Tryd.f12 [.agg #[.string ByteArray.empty, iv 0, iv 0, .bool false, .slice none 0 0], .bool false] Tryd.func12 ⟨⟨⟨b2, 0, none⟩, by kernel_rfl, ldV_run (S5.nth 0 rfl) (by kernel_rfl)⟩, by kernel_rfl, trivial⟩ ?_
   refine hR _ _ ?_
   obtain ⟨e1, e2⟩ := fr_none (d := d) (x := x) (fun j hj => beq_eq_false_iff_ne.2 (hq j (by omega)))
   exact ⟨by rw [e1, e2]; rfl, S5.nil⟩
 exact L12_1 _ 0 w2 (by omega) (by omega) (by intro k hk; simp at hk) S2 rfl

theorem frm0_Q (w : World) : frmQ w frm0 := ⟨by decide, by decide, by decide, ⟨by decide, by decide⟩, ⟨rfl, fun _ => rfl, by decide, (fun j v hj => by cases hj)⟩, (fun y hy => by cases hy), trivial⟩
noncomputable def K3_0 : List Item := adv 2 [] (bodyOf Tryd.f3)
noncomputable def K3_1 : List Item := adv 5 [] (popK K3_0)
noncomputable def K3_2 : List Item := adv 7 [false] (popK K3_1)
noncomputable def K3_3 : List Item := adv 2 [] (popK (popK K3_2))
noncomputable def K3_4 : List Item := adv 4 [false] K3_3
noncomputable def K3_5 : List Item := adv 8 [] (popK (popK K3_4))
noncomputable def K3_6 : List Item := adv 8 [] (popK (popK K3_5))
noncomputable def K3_7 : List Item := adv 1 [] (popK K3_6)
noncomputable def K3_8 : List Item := adv 3 [] (popK K3_7)
noncomputable def K3_9 : List Item := adv 4 [] (popK (popK K3_8))
noncomputable def K3_10 : List Item := adv 1 [] (popK K3_9)
noncomputable def K3_11 : List Item := adv 3 [] (popK K3_10)
noncomputable def K3_12 : List Item := adv 7 [] (popK (popK K3_11))
noncomputable def K3_13 : List Item := adv 4 [] K3_12
noncomputable def K3_14 : List Item := adv 5 [] K3_13
noncomputable def K3_15 : List Item := adv 2 [] K3_14
noncomputable def K3_16 : List Item := adv 3 [] (popK (popK (popK K3_15)))
noncomputable def K3_17 : List Item := adv 5 [true] K3_3
set_option maxRecDepth 20000 in
set_option maxHeartbeats 20000000 in
theorem lawtexts_any (d : Db) (id_ : Int) (w : World) (hd : dbQ w d) (hW : TabW w) : Ret Tryd.prog 3 #[.agg #[.slice d.gFrames_a d.gFrames_n d.gFrames_c], iv id_] w (fun v w' => v = .bool true ∧ Sep w [] w') := by
 have S0 := Sep.refl w
 refine Ret.named fun R hR => ?_
 refine Ret.of_J (N := 58) [(0, .agg #[.slice d.gFrames_a d.gFrames_n d.gFrames_c]), (1, iv id_)] Tryd.func3 rfl rfl (Nat.le_of_ble_eq_true (by kernel_rfl)) (by kernel_rfl) ?_
 obtain ⟨q1, q2, q3, _⟩ := id hd
 have ql1 := q2.len_eq
 have hdq : ∀ y ∈ d.gFrames_l, frmQ w y := hd.2.2.1
 refine J.run 2 K3_0 [(0, .agg #[.slice d.gFrames_a d.gFrames_n d.gFrames_c]), (1, iv id_)] w (by kernel_rfl) ?_
 refine J.new S0 2 [.slice d.gFrames_a d.gFrames_n d.gFrames_c] 24 (by kernel_rfl) ?_
 intro b1 w1 S1
 refine J.run 5 K3_1 [(2, .pointer (some ⟨b1, 0, none⟩)), (1, iv id_)] w1 (by kernel_rfl) ?_
 refine J.callF 13 7 #[] hb7 (by kernel_rfl) (awake_any  _) ?_
 rintro _ w2 ⟨rfl, T1⟩
 have S2 : Sep w [box b1 [.slice d.gFrames_a d.gFrames_n d.gFrames_c] 24] w2 := S1.trans T1
 clear T1 S1
 refine J.run 7 K3_2 [(2, .pointer (some ⟨b1, 0, none⟩)), (1, iv id_)] w2 (by kernel_rfl) ?_
 refine J.ok (OK.ldBox S2 0 15 24 0 (.agg #[.slice d.gFrames_a d.gFrames_n d.gFrames_c]) (by kernel_rfl) rfl (by kernel_rfl)) ?_
 refine J.callF 16 8 #[.agg #[.slice d.gFrames_a d.gFrames_n d.gFrames_c]] hb8 (by kernel_rfl) (few_any d _ (dbQ_sep hd S2)) ?_
 rintro _ w3 ⟨rfl, T2⟩
 have S3 : Sep w [box b1 [.slice d.gFrames_a d.gFrames_n d.gFrames_c] 24] w3 := S2.trans T2
 clear T2 S2
 refine J.run 2 K3_3 [(17, .bool (!(fewB d))), (2, .pointer (some ⟨b1, 0, none⟩)), (1, iv id_)] w3 (by kernel_rfl) ?_
 rcases Bool.eq_false_or_eq_true (fewB d) with fk1 | fk1
 ·skip
  refine J.head (.bool false) (congrArg Value.bool (by rw [fk1]; rfl)) ?_
  refine J.run 4 K3_4 [(2, .pointer (some ⟨b1, 0, none⟩)), (1, iv id_)] w3 (by kernel_rfl) ?_
  refine J.ok (OK.ldBox S3 0 19 24 0 (.agg #[.slice d.gFrames_a d.gFrames_n d.gFrames_c]) (by kernel_rfl) rfl (by kernel_rfl)) ?_
  refine J.callF 20 9 #[.agg #[.slice d.gFrames_a d.gFrames_n d.gFrames_c]] hb9 (by kernel_rfl) (dtext_any d _ (dbQ_sep hd S3) (tabW_sep hW S3)) ?_
  rintro _ w4 ⟨rfl, T3⟩
  have S4 : Sep w [box b1 [.slice d.gFrames_a d.gFrames_n d.gFrames_c] 24] w4 := S3.trans T3
  clear T3 S3
  refine J.run 8 K3_5 [(6, iv (txE d)), (5, .string (txS d)), (2, .pointer (some ⟨b1, 0, none⟩)), (1, iv id_)] w4 (by kernel_rfl) ?_
  refine J.ok (OK.ldBox S4 0 24 24 0 (.agg #[.slice d.gFrames_a d.gFrames_n d.gFrames_c]) (by kernel_rfl) rfl (by kernel_rfl)) ?_
  refine J.callF 25 10 #[.agg #[.slice d.gFrames_a d.gFrames_n d.gFrames_c]] hb10 (by kernel_rfl) (rdtext_any d _ (dbQ_sep hd S4)) ?_
  rintro _ w5 ⟨rfl, T4⟩
  have S5 : Sep w [box b1 [.slice d.gFrames_a d.gFrames_n d.gFrames_c] 24] w5 := S4.trans T4
  clear T4 S4
  refine J.run 8 K3_6 [(8, iv (txE d)), (7, .string (txS d)), (6, iv (txE d)), (5, .string (txS d)), (2, .pointer (some ⟨b1, 0, none⟩)), (1, iv id_)] w5 (by kernel_rfl) ?_
  refine J.ok (OK.ldBox S5 0 29 24 0 (.agg #[.slice d.gFrames_a d.gFrames_n d.gFrames_c]) (by kernel_rfl) rfl (by kernel_rfl)) ?_
  refine J.run 1 K3_7 [(30, iv id_), (29, .agg #[.slice d.gFrames_a d.gFrames_n d.gFrames_c]), (8, iv (txE d)), (7, .string (txS d)), (6, iv (txE d)), (5, .string (txS d)), (2, .pointer (some ⟨b1, 0, none⟩)), (1, iv id_)] w5 (by kernel_rfl) ?_
  refine J.callF 31 11 #[.agg #[.slice d.gFrames_a d.gFrames_n d.gFrames_c], iv id_] hb11 (by kernel_rfl) (frame_any d id_ _ (dbQ_sep hd S5)) ?_
  rintro _ w6 ⟨rfl, T5⟩
  have S6 : Sep w [box b1 [.slice d.gFrames_a d.gFrames_n d.gFrames_c] 24] w6 := S5.trans T5
  clear T5 S5
  refine J.run 3 K3_8 [(33, .bool (frO d id_)), (32, .agg #[.string ((frF d id_).gName), iv ((frF d id_).gID), iv ((frF d id_).gLength), .bool ((frF d id_).gGuarded), .slice ((frF d id_).gSignals_a) ((frF d id_).gSignals_n) ((frF d id_).gSignals_c)]), (8, iv (txE d)), (7, .string (txS d)), (6, iv (txE d)), (5, .string (txS d)), (2, .pointer (some ⟨b1, 0, none⟩)), (1, iv id_)] w6 (by kernel_rfl) ?_
  refine J.new S6 9 [.string ByteArray.empty, iv 0, iv 0, .bool false, .slice none 0 0] 34 (by kernel_rfl) ?_
  intro b2 w7 S7
  refine J.stBox S7 0 34 0 (.agg #[.string ((frF d id_).gName), iv ((frF d id_).gID), iv ((frF d id_).gLength), .bool ((frF d id_).gGuarded), .slice ((frF d id_).gSignals_a) ((frF d id_).gSignals_n) ((frF d id_).gSignals_c)]) [.string ((frF d id_).gName), iv ((frF d id_).gID), iv ((frF d id_).gLength), .bool ((frF d id_).gGuarded), .slice ((frF d id_).gSignals_a) ((frF d id_).gSignals_n) ((frF d id_).gSignals_c)] [box b2 [.string ((frF d id_).gName), iv ((frF d id_).gID), iv ((frF d id_).gLength), .bool ((frF d id_).gGuarded), .slice ((frF d id_).gSignals_a) ((frF d id_).gSignals_n) ((frF d id_).gSignals_c)] 34, box b1 [.slice d.gFrames_a d.gFrames_n d.gFrames_c] 24] (by kernel_rfl) rfl (by kernel_rfl) (by kernel_rfl) rfl ?_
  intro w8 S8
  refine J.run 4 K3_9 [(10, .bool (frO d id_)), (9, .pointer (some ⟨b2, 0, none⟩)), (8, iv (txE d)), (7, .string (txS d)), (6, iv (txE d)), (5, .string (txS d)), (2, .pointer (some ⟨b1, 0, none⟩)), (1, iv id_)] w8 (by kernel_rfl) ?_
  refine J.ok (OK.ldBox S8 1 35 24 0 (.agg #[.slice d.gFrames_a d.gFrames_n d.gFrames_c]) (by kernel_rfl) rfl (by kernel_rfl)) ?_
  refine J.run 1 K3_10 [(36, iv id_), (35, .agg #[.slice d.gFrames_a d.gFrames_n d.gFrames_c]), (10, .bool (frO d id_)), (9, .pointer (some ⟨b2, 0, none⟩)), (8, iv (txE d)), (7, .string (txS d)), (6, iv (txE d)), (5, .string (txS d))] w8 (by kernel_rfl) ?_
  refine J.callF 37 12 #[.agg #[.slice d.gFrames_a d.gFrames_n d.gFrames_c], iv id_] hb12 (by kernel_rfl) (rframe_any d id_ _ (dbQ_sep hd S8)) ?_
  rintro _ w9 ⟨rfl, T6⟩
  have S9 : Sep w [box b2 [.string ((frF d id_).gName), iv ((frF d id_).gID), iv ((frF d id_).gLength), .bool ((frF d id_).gGuarded), .slice ((frF d id_).gSignals_a) ((frF d id_).gSignals_n) ((frF d id_).gSignals_c)] 34, box b1 [.slice d.gFrames_a d.gFrames_n d.gFrames_c] 24] w9 := S8.trans T6
  clear T6 S8
  refine J.run 3 K3_11 [(39, .bool (frO d id_)), (38, .agg #[.string ((frF d id_).gName), iv ((frF d id_).gID), iv ((frF d id_).gLength), .bool ((frF d id_).gGuarded), .slice ((frF d id_).gSignals_a) ((frF d id_).gSignals_n) ((frF d id_).gSignals_c)]), (10, .bool (frO d id_)), (9, .pointer (some ⟨b2, 0, none⟩)), (8, iv (txE d)), (7, .string (txS d)), (6, iv (txE d)), (5, .string (txS d))] w9 (by kernel_rfl) ?_
  refine J.new S9 11 [.string ByteArray.empty, iv 0, iv 0, .bool false, .slice none 0 0] 34 (by kernel_rfl) ?_
  intro b3 w10 S10
  refine J.stBox S10 0 34 0 (.agg #[.string ((frF d id_).gName), iv ((frF d id_).gID), iv ((frF d id_).gLength), .bool ((frF d id_).gGuarded), .slice ((frF d id_).gSignals_a) ((frF d id_).gSignals_n) ((frF d id_).gSignals_c)]) [.string ((frF d id_).gName), iv ((frF d id_).gID), iv ((frF d id_).gLength), .bool ((frF d id_).gGuarded), .slice ((frF d id_).gSignals_a) ((frF d id_).gSignals_n) ((frF d id_).gSignals_c)] [box b3 [.string ((frF d id_).gName), iv ((frF d id_).gID), iv ((frF d id_).gLength), .bool ((frF d id_).gGuarded), .slice ((frF d id_).gSignals_a) ((frF d id_).gSignals_n) ((frF d id_).gSignals_c)] 34, box b2 [.string ((frF d id_).gName), iv ((frF d id_).gID), iv ((frF d id_).gLength), .bool ((frF d id_).gGuarded), .slice ((frF d id_).gSignals_a) ((frF d id_).gSignals_n) ((frF d id_).gSignals_c)] 34, box b1 [.slice d.gFrames_a d.gFrames_n d.gFrames_c] 24] (by kernel_rfl) rfl (by kernel_rfl) (by kernel_rfl) rfl ?_
  intro w11 S11
  refine J.run 7 K3_12 [(42, .bool ((txS d).toList == (txS d).toList)), (12, .bool (frO d id_)), (11, .pointer (some ⟨b3, 0, none⟩)), (10, .bool (frO d id_)), (9, .pointer (some ⟨b2, 0, none⟩)), (8, iv (txE d)), (6, iv (txE d))] w11 (by kernel_rfl) ?_
  refine J.head (.bool true) (congrArg Value.bool (by simp)) ?_
  refine J.run 4 K3_13 [(46, .bool ((txE d) == (txE d))), (43, .bool true), (12, .bool (frO d id_)), (11, .pointer (some ⟨b3, 0, none⟩)), (10, .bool (frO d id_)), (9, .pointer (some ⟨b2, 0, none⟩))] w11 (by kernel_rfl) ?_
  refine J.head (.bool true) (congrArg Value.bool (by simp)) ?_
  refine J.run 5 K3_14 [(51, .bool ((frO d id_) == (frO d id_))), (48, .bool true), (11, .pointer (some ⟨b3, 0, none⟩)), (9, .pointer (some ⟨b2, 0, none⟩))] w11 (by kernel_rfl) ?_
  refine J.head (.bool true) (congrArg Value.bool (by simp)) ?_
  refine J.run 2 K3_15 [(53, .bool true), (11, .pointer (some ⟨b3, 0, none⟩)), (9, .pointer (some ⟨b2, 0, none⟩))] w11 (by kernel_rfl) ?_
  refine J.ok (OK.ldBox S11 1 54 34 0 (.agg #[.string ((frF d id_).gName), iv ((frF d id_).gID), iv ((frF d id_).gLength), .bool ((frF d id_).gGuarded), .slice ((frF d id_).gSignals_a) ((frF d id_).gSignals_n) ((frF d id_).gSignals_c)]) (by kernel_rfl) rfl (by kernel_rfl)) ?_
  refine J.ok (OK.ldBox S11 0 55 34 0 (.agg #[.string ((frF d id_).gName), iv ((frF d id_).gID), iv ((frF d id_).gLength), .bool ((frF d id_).gGuarded), .slice ((frF d id_).gSignals_a) ((frF d id_).gSignals_n) ((frF d id_).gSignals_c)]) (by kernel_rfl) rfl (by kernel_rfl)) ?_
  refine J.callF 56 13 #[.agg #[.string ((frF d id_).gName), iv ((frF d id_).gID), iv ((frF d id_).gLength), .bool ((frF d id_).gGuarded), .slice ((frF d id_).gSignals_a) ((frF d id_).gSignals_n) ((frF d id_).gSignals_c)], .agg #[.string ((frF d id_).gName), iv ((frF d id_).gID), iv ((frF d id_).gLength), .bool ((frF d id_).gGuarded), .slice ((frF d id_).gSignals_a) ((frF d id_).gSignals_n) ((frF d id_).gSignals_c)]] hb13 (by kernel_rfl) (same_any (frF d id_) _ (fr_Q (w := w11) (fun y hy => frmQ_sep (hdq y hy) S11) (frm0_Q _) id_)) ?_
  rintro _ w12 ⟨rfl, T7⟩
  have S12 : Sep w [box b3 [.string ((frF d id_).gName), iv ((frF d id_).gID), iv ((frF d id_).gLength), .bool ((frF d id_).gGuarded), .slice ((frF d id_).gSignals_a) ((frF d id_).gSignals_n) ((frF d id_).gSignals_c)] 34, box b2 [.string ((frF d id_).gName), iv ((frF d id_).gID), iv ((frF d id_).gLength), .bool ((frF d id_).gGuarded), .slice ((frF d id_).gSignals_a) ((frF d id_).gSignals_n) ((frF d id_).gSignals_c)] 34, box b1 [.slice d.gFrames_a d.gFrames_n d.gFrames_c] 24] w12 := S11.trans T7
  clear T7 S11
  refine J.run 3 K3_16 [(4, .bool true)] w12 (by kernel_rfl) ?_
  refine J.ret Tryd.f3 [.bool true] Tryd.func3 ⟨by kernel_rfl, trivial⟩ ?_
  refine hR _ _ ?_
  exact ⟨rfl, S12.nil⟩
 ·skip
  refine J.head (.bool true) (congrArg Value.bool (by rw [fk1]; rfl)) ?_
  refine J.run 5 K3_17 [(4, .bool true)] w3 (by kernel_rfl) ?_
  refine J.ret Tryd.f3 [.bool true] Tryd.func3 ⟨by kernel_rfl, trivial⟩ ?_
  refine hR _ _ ?_
  exact ⟨rfl, S3.nil⟩

end Go.Proofs.YthiklimfffhbaaaDoor

