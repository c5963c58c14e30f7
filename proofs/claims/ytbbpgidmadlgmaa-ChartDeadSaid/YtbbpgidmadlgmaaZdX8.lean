/- Walks of functions of this seat, printed by a program over the engine. Conditions: as each theorem says. -/
import Derived.Test.YtbbpgidmadlgmaaZdX7
namespace Go.Proofs.Ytbbpgidmadlgmaa
noncomputable section
open Go.Eng Go.RowKit
set_option linter.unusedSimpArgs false
set_option linter.unusedVariables false
theorem getD_mem {α : Type} {l : List α} (d : α) {i : Nat} (h : i < l.length) : l.getD i d ∈ l := by rw [List.getD_eq_getElem?_getD, List.getElem?_eq_getElem h]; exact List.getElem_mem h
theorem ripe_zero (c : Cht) (s a : Int) : (0 : Int) = ripeF c s a (0 : Int).toNat := by unfold ripeF; simp
theorem ripe_all {c : Cht} {s a r : Int} {i : Int} (h : r = ripeF c s a i.toNat) (hi : (c.gMoves_l.length : Int) ≤ i) : r = ripeF c s a c.gMoves_l.length := by
  rw [h]; unfold ripeF; rw [List.take_of_length_le (by omega), List.take_length]
theorem cells_tl {w0 w : World} {L : List Eng.Claim} {o : List Cho} {x : Cho} (S : Sep w0 L w) (hs : ∀ c ∈ tlC o, c ∈ L) (hx : x ∈ o) : Ints w x.gmoves_a x.gmoves_l.length x.gmoves_l := row1_ones (S.all _ (hs _ (tlC_mem hx))) _ rfl
theorem ch_at {c : Cht} {s a : Int} {l : List Int} {b : Bool} (hq : chQ c s a l b) {j : Int} (h0 : 0 ≤ j) (hj : j < (l.length : Int)) : 0 ≤ l.getD j.toNat 0 ∧ l.getD j.toNat 0 < (c.gMoves_l.length : Int) := by
  have h := (hq.1 (l.getD j.toNat 0)).1 (getD_mem 0 (by omega))
  exact ⟨h.1, takes_lt h.2⟩
theorem qf_yes {c : Cht} {l : List Int} {j : Int} {q q2 : List Md} (h : q2 = QF c q l j.toNat) (hj : (l.length : Int) ≤ j) {b : Bool} {s a : Int} (hb : b = true) (ha : a < 1000) : q2 ++ [(⟨s, a + 1⟩ : Md)] = (q ++ l.map fun i => (⟨toM c i, 0⟩ : Md)) ++ if b = true ∧ a < 1000 then [⟨s, a + 1⟩] else [] := by
  rw [if_pos ⟨hb, ha⟩, h]; unfold QF; rw [List.take_of_length_le (by omega)]
theorem qf_no {c : Cht} {l : List Int} {j : Int} {q q2 : List Md} (h : q2 = QF c q l j.toNat) (hj : (l.length : Int) ≤ j) {b : Bool} {s a : Int} (hb : ¬ (b = true ∧ a < 1000)) : q2 = (q ++ l.map fun i => (⟨toM c i, 0⟩ : Md)) ++ if b = true ∧ a < 1000 then [⟨s, a + 1⟩] else [] := by
  rw [if_neg hb, h, List.append_nil]; unfold QF; rw [List.take_of_length_le (by omega)]
theorem hb42 : HasBody Try.prog 42 := fun _ _ => by kernel_rfl
def K42_0 := adv 2 [] (bodyOf Try.f42)
def K42_1 := adv 5 [] (popK K42_0)
def K42_2 := adv 5 [] (popK (popK K42_1))
def K42_3 := adv 4 [] (popK K42_2)
def K42_4 := adv 5 [] (popK K42_3)
def K42_5 := adv 1 [] (popK K42_4)
def K42_6 := adv 5 [] (popK K42_5)
def K42_7 := adv 7 [] K42_6
def K42_8 := adv 6 [true] K42_7
def K42_9 := adv 4 [] (popK (popK (popK (popK K42_8))))
def K42_10 := adv 6 [] (popK K42_9)
def K42_11 := adv 1 [] (popK (popK K42_10))
def K42_12 := adv 5 [false] K42_11
def K42_13 := adv 5 [] (popK (popK K42_12))
def K42_14 := adv 9 [] (popK (popK K42_13))
def K42_15 := adv 5 [] (popK K42_14)
def K42_16 := adv 5 [] K42_15
def K42_17 := adv 6 [true] K42_16
def K42_18 := adv 4 [] (popK (popK (popK (popK K42_17))))
def K42_19 := adv 1 [] (popK K42_18)
def K42_20 := adv 2 [] (popK K42_19)
def K42_21 := adv 1 [] K42_20
def K42_22 := adv 1 [] (popK K42_21)
def K42_23 := adv 3 [] (popK K42_22)
def K42_24 := adv 4 [true] K42_23
def K42_25 := adv 5 [] K42_24
def K42_26 := adv 5 [false] K42_23
def K42_27 := adv 12 [false] K42_20
def K42_28 := adv 5 [false] K42_16
def K42_29 := adv 2 [] (popK K42_28)
def K42_30 := adv 4 [] (popK (popK K42_29))
def K42_31 := adv 3 [] (popK (popK K42_30))
def K42_32 := adv 14 [false] (popK (popK K42_31))
def K42_33 := adv 5 [] (popK K42_32)
def K42_34 := adv 5 [] K42_33
def K42_35 := adv 6 [true] K42_34
def K42_36 := adv 6 [] (popK (popK K42_35))
def K42_37 := adv 4 [] (popK K42_36)
def K42_38 := adv 1 [] (popK K42_37)
def K42_39 := adv 1 [] (popK K42_38)
def K42_40 := adv 1 [] (popK K42_39)
def K42_41 := adv 5 [] (popK (popK K42_40))
def K42_42 := adv 5 [false] K42_34
def K42_43 := adv 1 [] (popK K42_42)
def K42_44 := adv 1 [] K42_43
def K42_45 := adv 3 [] (popK K42_44)
def K42_46 := adv 4 [true] K42_45
def K42_47 := adv 1 [] (popK K42_46)
def K42_48 := adv 1 [] (popK K42_47)
def K42_49 := adv 1 [] K42_48
def K42_50 := adv 3 [] (popK (popK K42_30))
def K42_51 := adv 11 [true] (popK (popK K42_50))
def K42_52 := adv 1 [] (popK K42_51)
def K42_53 := adv 1 [] (popK K42_52)
def K42_54 := adv 3 [] (popK (popK (popK K42_53)))
def K42_55 := adv 5 [] (popK (popK (popK K42_54)))
def K42_56 := adv 5 [] (popK K42_55)
def K42_57 := adv 5 [] K42_56
def K42_58 := adv 6 [true] K42_57
def K42_59 := adv 6 [] (popK (popK K42_58))
def K42_60 := adv 4 [] (popK K42_59)
def K42_61 := adv 1 [] (popK K42_60)
def K42_62 := adv 1 [] (popK K42_61)
def K42_63 := adv 1 [] (popK K42_62)
def K42_64 := adv 5 [] (popK (popK K42_63))
def K42_65 := adv 5 [false] K42_57
def K42_66 := adv 1 [] (popK K42_65)
def K42_67 := adv 1 [] K42_66
def K42_68 := adv 3 [] (popK K42_67)
def K42_69 := adv 4 [true] K42_68
def K42_70 := adv 1 [] (popK K42_69)
def K42_71 := adv 1 [] (popK K42_70)
def K42_72 := adv 1 [] K42_71
def K42_73 := adv 9 [false] K42_7
set_option maxRecDepth 20000 in
set_option maxHeartbeats 20000000 in
theorem search_any (c : Cht) (w : World) (hc : chtQ w c) (hv : validC c = true) : Ret Try.prog 42 #[.agg #[.slice c.gStates_a c.gStates_n c.gStates_c, .slice c.gInputs_a c.gInputs_n c.gInputs_c, .int .i64 c.gStart, .slice c.gMoves_a c.gMoves_n c.gMoves_c]] w (fun v w' => ∃ b1 b2, ∃ F1 F2 : Int → Option Bool, SRes c F1 F2 ∧ v = .tuple #[.map (some b1), .map (some b2)] ∧ Sep w [mapC (Value.int .i64) Value.bool b1 F1, mapC (Value.int .i64) Value.bool b2 F2] w') := by
 have S0 := Sep.refl w
 refine Ret.named fun R hR => ?_
 refine Ret.of_J (N := 121) [(0, .agg #[.slice c.gStates_a c.gStates_n c.gStates_c, .slice c.gInputs_a c.gInputs_n c.gInputs_c, .int .i64 c.gStart, .slice c.gMoves_a c.gMoves_n c.gMoves_c])] Try.func42 rfl rfl (Nat.le_of_ble_eq_true (by kernel_rfl)) (by kernel_rfl) ?_
 obtain ⟨q1, q2, q3, q4, q5, q6, q7, q8, q9, q10, _⟩ := id hc
 have ql1 := q2.len_eq
 have ql2 := q5.len_eq
 have ql3 := q9.len_eq
 have hvf := validC_facts hv
 refine J.run 2 K42_0 [(0, .agg #[.slice c.gStates_a c.gStates_n c.gStates_c, .slice c.gInputs_a c.gInputs_n c.gInputs_c, .int .i64 c.gStart, .slice c.gMoves_a c.gMoves_n c.gMoves_c])] w (by kernel_rfl) ?_
 refine J.new S0 1 [.slice c.gStates_a c.gStates_n c.gStates_c, .slice c.gInputs_a c.gInputs_n c.gInputs_c, .int .i64 c.gStart, .slice c.gMoves_a c.gMoves_n c.gMoves_c] 25 (by kernel_rfl) ?_
 intro b1 w1 S1
 refine J.run 5 K42_1 [(1, .pointer (some ⟨b1, 0, none⟩))] w1 (by kernel_rfl) ?_
 refine J.newMap (Value.int .i64) Value.bool S1 16 (by kernel_rfl) ?_
 intro b2 w2 S2
 refine J.newMap (Value.int .i64) Value.bool S2 17 (by kernel_rfl) ?_
 intro b3 w3 S3
 refine J.run 5 K42_2 [(3, .map (some b3)), (2, .map (some b2)), (1, .pointer (some ⟨b1, 0, none⟩))] w3 (by kernel_rfl) ?_
 refine J.newMap twoV chV S3 18 (by kernel_rfl) ?_
 intro b4 w4 S4
 refine J.run 4 K42_3 [(4, .map (some b4)), (3, .map (some b3)), (2, .map (some b2)), (1, .pointer (some ⟨b1, 0, none⟩))] w4 (by kernel_rfl) ?_
 refine J.newMap twoV Value.bool S4 19 (by kernel_rfl) ?_
 intro b5 w5 S5
 refine J.run 5 K42_4 [(20, .pointer (some ⟨b1, 2, none⟩)), (5, .map (some b5)), (4, .map (some b4)), (3, .map (some b3)), (2, .map (some b2)), (1, .pointer (some ⟨b1, 0, none⟩))] w5 (by kernel_rfl) ?_
 refine J.ok (OK.ldBox S5 4 21 3 2 (.int .i64 c.gStart) (by kernel_rfl) rfl (by kernel_rfl)) ?_
 refine J.run 1 K42_5 [(22, .agg #[.int .i64 c.gStart, .int .i64 0]), (5, .map (some b5)), (4, .map (some b4)), (3, .map (some b3)), (2, .map (some b2)), (1, .pointer (some ⟨b1, 0, none⟩))] w5 (by kernel_rfl) ?_
 refine J.newSlice S5 23 1 [.int .i64 c.gStart, .int .i64 0] 37 (by kernel_rfl) ?_
 intro b6 w6 S6
 refine J.run 5 K42_6 [(6, .slice (some ⟨b6, 0, none⟩) 1 1), (5, .map (some b5)), (4, .map (some b4)), (3, .map (some b3)), (2, .map (some b2)), (1, .pointer (some ⟨b1, 0, none⟩))] w6 (by kernel_rfl) ?_
 have S7 : Sep w (box b6 [.int .i64 c.gStart, .int .i64 0] 37 :: mapC twoV Value.bool b5 (fun _ => none) :: mapC twoV chV b4 (fun _ => none) :: mapC (Value.int .i64) Value.bool b3 (fun _ => none) :: mapC (Value.int .i64) Value.bool b2 (fun _ => none) :: box b1 [.slice c.gStates_a c.gStates_n c.gStates_c, .slice c.gInputs_a c.gInputs_n c.gInputs_c, .int .i64 c.gStart, .slice c.gMoves_a c.gMoves_n c.gMoves_c] 25 :: tlC ([])) w6 := S6
 have S8 : Sep w (quC mdE (some ⟨b6, 0, none⟩) ([(⟨c.gStart, 0⟩ : Md)].length) 37 2 ([(⟨c.gStart, 0⟩ : Md)]) :: mapC twoV Value.bool b5 (fun _ => none) :: mapC twoV chV b4 (fun _ => none) :: mapC (Value.int .i64) Value.bool b3 (fun _ => none) :: mapC (Value.int .i64) Value.bool b2 (fun _ => none) :: box b1 [.slice c.gStates_a c.gStates_n c.gStates_c, .slice c.gInputs_a c.gInputs_n c.gInputs_c, .int .i64 c.gStart, .slice c.gMoves_a c.gMoves_n c.gMoves_c] 25 :: tlC ([])) w6 := S7.toQu mdE 0 rfl [(⟨c.gStart, 0⟩ : Md)] 2 rfl (fun _ => rfl) (by simp)
 have L42_1 : ∀ (mm_ : Nat) (qa : Option Addr) (qc : Nat) (q : List Md) (F1 : Int → Option Bool) (F2 : Int → Option Bool) (G : Int × Int → Option Bool) (H : Int × Int → Option Cho) (outs : List Cho) (w7 : World), (unG G * 1100 + (q).length ≤ 22100000) → (SInv c F1 F2 G q) → (KInv c H outs) → Sep w (quC mdE qa qc 37 2 q :: mapC twoV Value.bool b5 G :: mapC twoV chV b4 H :: mapC (Value.int .i64) Value.bool b3 F2 :: mapC (Value.int .i64) Value.bool b2 F1 :: box b1 [.slice c.gStates_a c.gStates_n c.gStates_c, .slice c.gInputs_a c.gInputs_n c.gInputs_c, .int .i64 c.gStart, .slice c.gMoves_a c.gMoves_n c.gMoves_c] 25 :: tlC outs) w7 → unG G * 1100 + (q).length = mm_ → J Try.prog 42 121 R K42_6 [(6, .slice qa q.length qc), (5, .map (some b5)), (4, .map (some b4)), (3, .map (some b3)), (2, .map (some b2)), (1, .pointer (some ⟨b1, 0, none⟩))] w7 := by
  intro mm1
  induction mm1 using Nat.strongRecOn with
  | _ mm1 ih1 =>
  intro qa qc q F1 F2 G H outs w7 hB hI hK S9 hm1
  refine J.run 7 K42_7 [(26, .bool (decide ((q.length : Int) > 0))), (6, .slice qa q.length qc), (5, .map (some b5)), (4, .map (some b4)), (3, .map (some b3)), (2, .map (some b2)), (1, .pointer (some ⟨b1, 0, none⟩))] w7 (by kernel_rfl) ?_
  by_cases fk1 : (q.length : Int) > 0
  rotate_left
  ·skip
   refine J.head (.bool false) (congrArg Value.bool (decide_eq_false fk1)) ?_
   refine J.run 9 K42_73 [(3, .map (some b3)), (2, .map (some b2))] w7 (by kernel_rfl) ?_
   refine J.ret Try.f42 [.map (some b2), .map (some b3)] Try.func42 ⟨by kernel_rfl, by kernel_rfl, trivial⟩ ?_
   refine hR _ _ ?_
   have S66 : Sep w [mapC (Value.int .i64) Value.bool b3 F2, mapC (Value.int .i64) Value.bool b2 F1] w7 := S9.sub (.cons _ (.cons _ (.cons _ (.cons_cons _ (.cons_cons _ (List.nil_sublist _))))))
   clear S9
   have S67 : Sep w [mapC (Value.int .i64) Value.bool b2 F1, mapC (Value.int .i64) Value.bool b3 F2] w7 := S66.front 1 rfl
   clear S66
   exact ⟨_, _, _, _, sinv_end hI (by omega), rfl, S67⟩
  refine J.head (.bool true) (congrArg Value.bool (decide_eq_true fk1)) ?_
  refine J.run 6 K42_8 [(27, .slice qa q.length qc), (6, .slice qa q.length qc), (5, .map (some b5)), (4, .map (some b4)), (3, .map (some b3)), (2, .map (some b2)), (1, .pointer (some ⟨b1, 0, none⟩))] w7 (by kernel_rfl) ?_
  obtain ⟨p1, hp1, hc1⟩ := (quC_recs (S9.nth 0 rfl) _ rfl (fun _ => rfl) (by decide)).at (⟨0, 0⟩ : Md) 0 (by omega)
  refine J.ok (OK.index 28 80 2 qa p1 q.length 0 0 (p1.add (0 * 2)) (by kernel_rfl) (by kernel_rfl) hp1 (by omega) (by omega) rfl) ?_
  refine J.ok (OK.ldCells 29 37 (p1.add (0 * 2)) [.int .i64 ((q.getD 0 (⟨0, 0⟩ : Md)).gState), .int .i64 ((q.getD 0 (⟨0, 0⟩ : Md)).gAge)] (by kernel_rfl) (by kernel_rfl) (by kernel_rfl) hc1) ?_
  obtain ⟨ms, ma, hme⟩ : ∃ a b, q.getD 0 md0 = ⟨a, b⟩ := ⟨_, _, rfl⟩
  have hrm := sinv_head hI (by omega) hme
  have hmi := rch_in hv hrm
  refine J.head (.agg #[.int .i64 ms, .int .i64 ma]) (by show Value.agg #[.int .i64 (q.getD 0 md0).gState, .int .i64 (q.getD 0 md0).gAge] = _; rw [hme]) ?_
  refine J.new S9 7 [.int .i64 0, .int .i64 0] 37 (by kernel_rfl) ?_
  intro b7 w8 S10
  refine J.stBox S10 0 37 0 (.agg #[.int .i64 ms, .int .i64 ma]) [.int .i64 ms, .int .i64 ma] (box b7 [.int .i64 ms, .int .i64 ma] 37 :: quC mdE qa qc 37 2 q :: mapC twoV Value.bool b5 G :: mapC twoV chV b4 H :: mapC (Value.int .i64) Value.bool b3 F2 :: mapC (Value.int .i64) Value.bool b2 F1 :: box b1 [.slice c.gStates_a c.gStates_n c.gStates_c, .slice c.gInputs_a c.gInputs_n c.gInputs_c, .int .i64 c.gStart, .slice c.gMoves_a c.gMoves_n c.gMoves_c] 25 :: tlC outs) (by kernel_rfl) rfl (by kernel_rfl) (by kernel_rfl) rfl ?_
  intro w9 S11
  refine J.run 4 K42_9 [(30, .slice qa q.length qc), (7, .pointer (some ⟨b7, 0, none⟩)), (5, .map (some b5)), (4, .map (some b4)), (3, .map (some b3)), (2, .map (some b2)), (1, .pointer (some ⟨b1, 0, none⟩))] w9 (by kernel_rfl) ?_
  have := quC_facts (S11.nth 1 rfl)
  refine J.ok (OK.slice 31 80 2 qa q.length qc (some (.int .i64 1)) none 1 q.length (by kernel_rfl) (by kernel_rfl) (.inr ⟨_, _, rfl, rfl⟩) (.inl ⟨rfl, rfl⟩) (by first | omega | (simp; omega)) (by first | omega | (simp; omega))) ?_
  refine J.head (.slice (subA qa qc 1 2) ((q.drop 1).length) (qc - 1)) (by rw [List.length_drop]) ?_
  have := List.length_drop (i := 1) (l := q)
  have S12 : Sep w (box b7 [.int .i64 ms, .int .i64 ma] 37 :: quC mdE (subA qa qc 1 2) (qc - 1) 37 2 (q.drop 1) :: mapC twoV Value.bool b5 G :: mapC twoV chV b4 H :: mapC (Value.int .i64) Value.bool b3 F2 :: mapC (Value.int .i64) Value.bool b2 F1 :: box b1 [.slice c.gStates_a c.gStates_n c.gStates_c, .slice c.gInputs_a c.gInputs_n c.gInputs_c, .int .i64 c.gStart, .slice c.gMoves_a c.gMoves_n c.gMoves_c] 25 :: tlC outs) w9 := S11.quDrop 1 rfl (fun _ => rfl) (by first | omega | (simp; omega))
  refine J.run 6 K42_10 [(32, .map (some b5)), (6, .slice (subA qa qc 1 2) ((q.drop 1).length) (qc - 1)), (7, .pointer (some ⟨b7, 0, none⟩)), (5, .map (some b5)), (4, .map (some b4)), (3, .map (some b3)), (2, .map (some b2)), (1, .pointer (some ⟨b1, 0, none⟩))] w9 (by kernel_rfl) ?_
  refine J.ok (OK.ldBox S12 0 33 37 0 (.agg #[.int .i64 ms, .int .i64 ma]) (by kernel_rfl) rfl (by kernel_rfl)) ?_
  refine J.ok (OK.lookup S12 2 34 79 37 4 (.bool false) (ms, ma) false rfl (by kernel_rfl) (by kernel_rfl) key79 (.bool ((G (ms, ma)).getD false)) (lk_bool _)) ?_
  refine J.run 1 K42_11 [(34, .bool ((G (ms, ma)).getD false)), (6, .slice (subA qa qc 1 2) ((q.drop 1).length) (qc - 1)), (7, .pointer (some ⟨b7, 0, none⟩)), (5, .map (some b5)), (4, .map (some b4)), (3, .map (some b3)), (2, .map (some b2)), (1, .pointer (some ⟨b1, 0, none⟩))] w9 (by kernel_rfl) ?_
  rcases Bool.eq_false_or_eq_true ((G (ms, ma)).getD false) with fk2 | fk2
  ·skip
   refine J.head (.bool true) (congrArg Value.bool fk2) ?_
   refine J.run 3 K42_6 [(6, .slice (subA qa qc 1 2) ((q.drop 1).length) (qc - 1)), (5, .map (some b5)), (4, .map (some b4)), (3, .map (some b3)), (2, .map (some b2)), (1, .pointer (some ⟨b1, 0, none⟩))] w9 (by kernel_rfl) ?_
   have S13 : Sep w (quC mdE (subA qa qc 1 2) (qc - 1) 37 2 (q.drop 1) :: mapC twoV Value.bool b5 G :: mapC twoV chV b4 H :: mapC (Value.int .i64) Value.bool b3 F2 :: mapC (Value.int .i64) Value.bool b2 F1 :: box b1 [.slice c.gStates_a c.gStates_n c.gStates_c, .slice c.gInputs_a c.gInputs_n c.gInputs_c, .int .i64 c.gStart, .slice c.gMoves_a c.gMoves_n c.gMoves_c] 25 :: tlC outs) w9 := S12.erase 0
   clear S12
   refine J.run 0 K42_6 [(6, .slice (subA qa qc 1 2) ((q.drop 1).length) (qc - 1)), (5, .map (some b5)), (4, .map (some b4)), (3, .map (some b3)), (2, .map (some b2)), (1, .pointer (some ⟨b1, 0, none⟩))] w9 (by kernel_rfl) ?_
   exact ih1 _ (show unG G * 1100 + ((q.drop 1)).length < mm1 from (by first | omega | (rw [List.length_append, List.length_singleton]; omega))) (subA qa qc 1 2) (qc - 1) (q.drop 1) F1 F2 G H outs w9 ((by first | omega | (rw [List.length_append, List.length_singleton]; omega))) (sinv_seen hI (by omega) hme fk2) (hK) S13 rfl
  refine J.head (.bool false) (congrArg Value.bool fk2) ?_
  refine J.run 5 K42_12 [(35, .map (some b5)), (6, .slice (subA qa qc 1 2) ((q.drop 1).length) (qc - 1)), (7, .pointer (some ⟨b7, 0, none⟩)), (5, .map (some b5)), (4, .map (some b4)), (3, .map (some b3)), (2, .map (some b2)), (1, .pointer (some ⟨b1, 0, none⟩))] w9 (by kernel_rfl) ?_
  refine J.ok (OK.ldBox S12 0 36 37 0 (.agg #[.int .i64 ms, .int .i64 ma]) (by kernel_rfl) rfl (by kernel_rfl)) ?_
  refine J.mapUpdate S12 2 79 37 4 (.bool false) (ms, ma) true rfl (by kernel_rfl) (by kernel_rfl) key79 ?_
  intro w10 S14
  replace S14 : Sep w (box b7 [.int .i64 ms, .int .i64 ma] 37 :: quC mdE (subA qa qc 1 2) (qc - 1) 37 2 (q.drop 1) :: mapC twoV Value.bool b5 (updF G (ms, ma) true) :: mapC twoV chV b4 H :: mapC (Value.int .i64) Value.bool b3 F2 :: mapC (Value.int .i64) Value.bool b2 F1 :: box b1 [.slice c.gStates_a c.gStates_n c.gStates_c, .slice c.gInputs_a c.gInputs_n c.gInputs_c, .int .i64 c.gStart, .slice c.gMoves_a c.gMoves_n c.gMoves_c] 25 :: tlC outs) w10 := S14
  have hun := unG_dec (by omega) (by omega) fk2
  refine J.run 5 K42_13 [(38, .pointer (some ⟨b7, 0, none⟩)), (37, .map (some b2)), (6, .slice (subA qa qc 1 2) ((q.drop 1).length) (qc - 1)), (7, .pointer (some ⟨b7, 0, none⟩)), (5, .map (some b5)), (4, .map (some b4)), (3, .map (some b3)), (2, .map (some b2)), (1, .pointer (some ⟨b1, 0, none⟩))] w10 (by kernel_rfl) ?_
  refine J.ok (OK.ldBox S14 0 39 3 0 (.int .i64 ms) (by kernel_rfl) rfl (by kernel_rfl)) ?_
  refine J.mapUpdate S14 5 68 3 4 (.bool false) ms true rfl (by kernel_rfl) (by kernel_rfl) key68 ?_
  intro w11 S15
  replace S15 : Sep w (box b7 [.int .i64 ms, .int .i64 ma] 37 :: quC mdE (subA qa qc 1 2) (qc - 1) 37 2 (q.drop 1) :: mapC twoV Value.bool b5 (updF G (ms, ma) true) :: mapC twoV chV b4 H :: mapC (Value.int .i64) Value.bool b3 F2 :: mapC (Value.int .i64) Value.bool b2 (updF F1 ms true) :: box b1 [.slice c.gStates_a c.gStates_n c.gStates_c, .slice c.gInputs_a c.gInputs_n c.gInputs_c, .int .i64 c.gStart, .slice c.gMoves_a c.gMoves_n c.gMoves_c] 25 :: tlC outs) w11 := S15
  refine J.run 9 K42_14 [(40, .pointer (some ⟨b1, 3, none⟩)), (8, .int .i64 0), (6, .slice (subA qa qc 1 2) ((q.drop 1).length) (qc - 1)), (7, .pointer (some ⟨b7, 0, none⟩)), (5, .map (some b5)), (4, .map (some b4)), (3, .map (some b3)), (2, .map (some b2)), (1, .pointer (some ⟨b1, 0, none⟩))] w11 (by kernel_rfl) ?_
  refine J.ok (OK.ldBox S15 6 41 23 3 (.slice c.gMoves_a c.gMoves_n c.gMoves_c) (by kernel_rfl) rfl (by kernel_rfl)) ?_
  refine J.run 5 K42_15 [(43, .int .i64 0), (42, .int .i64 (c.gMoves_n : Int)), (41, .slice c.gMoves_a c.gMoves_n c.gMoves_c), (8, .int .i64 0), (6, .slice (subA qa qc 1 2) ((q.drop 1).length) (qc - 1)), (7, .pointer (some ⟨b7, 0, none⟩)), (5, .map (some b5)), (4, .map (some b4)), (3, .map (some b3)), (2, .map (some b2)), (1, .pointer (some ⟨b1, 0, none⟩))] w11 (by kernel_rfl) ?_
  have L42_2 : ∀ (mm_ : Nat) (r : Int) (i : Int) (w12 : World), (0 ≤ i) → (i ≤ (c.gMoves_n : Int)) → (0 ≤ r ∧ r ≤ i) → (r = ripeF c ms ma (i).toNat) → Sep w (box b7 [.int .i64 ms, .int .i64 ma] 37 :: quC mdE (subA qa qc 1 2) (qc - 1) 37 2 (q.drop 1) :: mapC twoV Value.bool b5 (updF G (ms, ma) true) :: mapC twoV chV b4 H :: mapC (Value.int .i64) Value.bool b3 F2 :: mapC (Value.int .i64) Value.bool b2 (updF F1 ms true) :: box b1 [.slice c.gStates_a c.gStates_n c.gStates_c, .slice c.gInputs_a c.gInputs_n c.gInputs_c, .int .i64 c.gStart, .slice c.gMoves_a c.gMoves_n c.gMoves_c] 25 :: tlC outs) w12 → ((c.gMoves_n : Int) - i).toNat = mm_ → J Try.prog 42 121 R K42_15 [(43, .int .i64 i), (42, .int .i64 (c.gMoves_n : Int)), (41, .slice c.gMoves_a c.gMoves_n c.gMoves_c), (8, .int .i64 r), (6, .slice (subA qa qc 1 2) ((q.drop 1).length) (qc - 1)), (7, .pointer (some ⟨b7, 0, none⟩)), (5, .map (some b5)), (4, .map (some b4)), (3, .map (some b3)), (2, .map (some b2)), (1, .pointer (some ⟨b1, 0, none⟩))] w12 := by
   intro mm2
   induction mm2 using Nat.strongRecOn with
   | _ mm2 ih2 =>
   intro r i w12 h0 h1 hr0 hr S16 hm2
   refine J.run 5 K42_16 [(44, .bool (decide (i < (c.gMoves_n : Int)))), (43, .int .i64 i), (42, .int .i64 (c.gMoves_n : Int)), (41, .slice c.gMoves_a c.gMoves_n c.gMoves_c), (8, .int .i64 r), (6, .slice (subA qa qc 1 2) ((q.drop 1).length) (qc - 1)), (7, .pointer (some ⟨b7, 0, none⟩)), (5, .map (some b5)), (4, .map (some b4)), (3, .map (some b3)), (2, .map (some b2)), (1, .pointer (some ⟨b1, 0, none⟩))] w12 (by kernel_rfl) ?_
   by_cases fk3 : i < (c.gMoves_n : Int)
   ·skip
    refine J.head (.bool true) (congrArg Value.bool (decide_eq_true fk3)) ?_
    refine J.run 6 K42_17 [(43, .int .i64 i), (42, .int .i64 (c.gMoves_n : Int)), (41, .slice c.gMoves_a c.gMoves_n c.gMoves_c), (8, .int .i64 r), (6, .slice (subA qa qc 1 2) ((q.drop 1).length) (qc - 1)), (7, .pointer (some ⟨b7, 0, none⟩)), (5, .map (some b5)), (4, .map (some b4)), (3, .map (some b3)), (2, .map (some b2)), (1, .pointer (some ⟨b1, 0, none⟩))] w12 (by kernel_rfl) ?_
    obtain ⟨p2, hp2, hc2⟩ := q9.at (⟨0, 0, 0, 0, 0⟩ : Mv) (i).toNat (by omega)
    have hel1 := getD_Q q10 (⟨0, 0, 0, 0, 0⟩ : Mv) (n := (i).toNat) (by have := q9.len_eq; omega)
    obtain ⟨q11, q12, q13, q14, q15, _⟩ := id hel1
    refine J.ok (OK.index 45 23 5 c.gMoves_a p2 c.gMoves_n (i).toNat i (p2.add ((i).toNat * 5)) (by kernel_rfl) (by kernel_rfl) hp2 (by omega) (by omega) rfl) ?_
    refine J.ok (OK.ldCells 46 42 (p2.add ((i).toNat * 5)) [.int .i64 ((c.gMoves_l.getD (i).toNat (⟨0, 0, 0, 0, 0⟩ : Mv)).gFrom), .int .i64 ((c.gMoves_l.getD (i).toNat (⟨0, 0, 0, 0, 0⟩ : Mv)).gTo), .int .i64 ((c.gMoves_l.getD (i).toNat (⟨0, 0, 0, 0, 0⟩ : Mv)).gOn), .int .i64 ((c.gMoves_l.getD (i).toNat (⟨0, 0, 0, 0, 0⟩ : Mv)).gOff), .int .i64 ((c.gMoves_l.getD (i).toNat (⟨0, 0, 0, 0, 0⟩ : Mv)).gAfter)] (by kernel_rfl) (by kernel_rfl) (by kernel_rfl) (fun j_ v_ hj_ => S16.cell (hc2 j_ v_ hj_))) ?_
    refine J.new S16 10 [.int .i64 0, .int .i64 0, .int .i64 0, .int .i64 0, .int .i64 0] 42 (by kernel_rfl) ?_
    intro b8 w13 S17
    refine J.stBox S17 0 42 0 (.agg #[.int .i64 ((c.gMoves_l.getD (i).toNat (⟨0, 0, 0, 0, 0⟩ : Mv)).gFrom), .int .i64 ((c.gMoves_l.getD (i).toNat (⟨0, 0, 0, 0, 0⟩ : Mv)).gTo), .int .i64 ((c.gMoves_l.getD (i).toNat (⟨0, 0, 0, 0, 0⟩ : Mv)).gOn), .int .i64 ((c.gMoves_l.getD (i).toNat (⟨0, 0, 0, 0, 0⟩ : Mv)).gOff), .int .i64 ((c.gMoves_l.getD (i).toNat (⟨0, 0, 0, 0, 0⟩ : Mv)).gAfter)]) [.int .i64 ((c.gMoves_l.getD (i).toNat (⟨0, 0, 0, 0, 0⟩ : Mv)).gFrom), .int .i64 ((c.gMoves_l.getD (i).toNat (⟨0, 0, 0, 0, 0⟩ : Mv)).gTo), .int .i64 ((c.gMoves_l.getD (i).toNat (⟨0, 0, 0, 0, 0⟩ : Mv)).gOn), .int .i64 ((c.gMoves_l.getD (i).toNat (⟨0, 0, 0, 0, 0⟩ : Mv)).gOff), .int .i64 ((c.gMoves_l.getD (i).toNat (⟨0, 0, 0, 0, 0⟩ : Mv)).gAfter)] (box b8 [.int .i64 ((c.gMoves_l.getD (i).toNat (⟨0, 0, 0, 0, 0⟩ : Mv)).gFrom), .int .i64 ((c.gMoves_l.getD (i).toNat (⟨0, 0, 0, 0, 0⟩ : Mv)).gTo), .int .i64 ((c.gMoves_l.getD (i).toNat (⟨0, 0, 0, 0, 0⟩ : Mv)).gOn), .int .i64 ((c.gMoves_l.getD (i).toNat (⟨0, 0, 0, 0, 0⟩ : Mv)).gOff), .int .i64 ((c.gMoves_l.getD (i).toNat (⟨0, 0, 0, 0, 0⟩ : Mv)).gAfter)] 42 :: box b7 [.int .i64 ms, .int .i64 ma] 37 :: quC mdE (subA qa qc 1 2) (qc - 1) 37 2 (q.drop 1) :: mapC twoV Value.bool b5 (updF G (ms, ma) true) :: mapC twoV chV b4 H :: mapC (Value.int .i64) Value.bool b3 F2 :: mapC (Value.int .i64) Value.bool b2 (updF F1 ms true) :: box b1 [.slice c.gStates_a c.gStates_n c.gStates_c, .slice c.gInputs_a c.gInputs_n c.gInputs_c, .int .i64 c.gStart, .slice c.gMoves_a c.gMoves_n c.gMoves_c] 25 :: tlC outs) (by kernel_rfl) rfl (by kernel_rfl) (by kernel_rfl) rfl ?_
    intro w14 S18
    refine J.run 4 K42_18 [(47, .pointer (some ⟨b8, 0, none⟩)), (10, .pointer (some ⟨b8, 0, none⟩)), (43, .int .i64 i), (42, .int .i64 (c.gMoves_n : Int)), (41, .slice c.gMoves_a c.gMoves_n c.gMoves_c), (8, .int .i64 r), (6, .slice (subA qa qc 1 2) ((q.drop 1).length) (qc - 1)), (7, .pointer (some ⟨b7, 0, none⟩)), (5, .map (some b5)), (4, .map (some b4)), (3, .map (some b3)), (2, .map (some b2)), (1, .pointer (some ⟨b1, 0, none⟩))] w14 (by kernel_rfl) ?_
    refine J.ok (OK.ldBox S18 0 48 3 0 (.int .i64 ((c.gMoves_l.getD (i).toNat (⟨0, 0, 0, 0, 0⟩ : Mv)).gFrom)) (by kernel_rfl) rfl (by kernel_rfl)) ?_
    refine J.run 1 K42_19 [(49, .pointer (some ⟨b7, 0, none⟩)), (48, .int .i64 ((c.gMoves_l.getD (i).toNat (⟨0, 0, 0, 0, 0⟩ : Mv)).gFrom)), (10, .pointer (some ⟨b8, 0, none⟩)), (43, .int .i64 i), (42, .int .i64 (c.gMoves_n : Int)), (41, .slice c.gMoves_a c.gMoves_n c.gMoves_c), (8, .int .i64 r), (6, .slice (subA qa qc 1 2) ((q.drop 1).length) (qc - 1)), (7, .pointer (some ⟨b7, 0, none⟩)), (5, .map (some b5)), (4, .map (some b4)), (3, .map (some b3)), (2, .map (some b2)), (1, .pointer (some ⟨b1, 0, none⟩))] w14 (by kernel_rfl) ?_
    refine J.ok (OK.ldBox S18 1 50 3 0 (.int .i64 ms) (by kernel_rfl) rfl (by kernel_rfl)) ?_
    refine J.run 2 K42_20 [(52, .bool (((c.gMoves_l.getD (i).toNat (⟨0, 0, 0, 0, 0⟩ : Mv)).gFrom) == ms)), (10, .pointer (some ⟨b8, 0, none⟩)), (43, .int .i64 i), (42, .int .i64 (c.gMoves_n : Int)), (41, .slice c.gMoves_a c.gMoves_n c.gMoves_c), (8, .int .i64 r), (6, .slice (subA qa qc 1 2) ((q.drop 1).length) (qc - 1)), (7, .pointer (some ⟨b7, 0, none⟩)), (5, .map (some b5)), (4, .map (some b4)), (3, .map (some b3)), (2, .map (some b2)), (1, .pointer (some ⟨b1, 0, none⟩))] w14 (by kernel_rfl) ?_
    by_cases fk4 : ((c.gMoves_l.getD (i).toNat (⟨0, 0, 0, 0, 0⟩ : Mv)).gFrom) = ms
    rotate_left
    ·skip
     refine J.head (.bool false) (congrArg Value.bool (beq_eq_false_iff_ne.2 fk4)) ?_
     refine J.run 12 K42_27 [(61, .int .i64 (IntKind.wrap .i64 (i + 1))), (42, .int .i64 (c.gMoves_n : Int)), (41, .slice c.gMoves_a c.gMoves_n c.gMoves_c), (8, .int .i64 r), (6, .slice (subA qa qc 1 2) ((q.drop 1).length) (qc - 1)), (7, .pointer (some ⟨b7, 0, none⟩)), (5, .map (some b5)), (4, .map (some b4)), (3, .map (some b3)), (2, .map (some b2)), (1, .pointer (some ⟨b1, 0, none⟩))] w14 (by kernel_rfl) ?_
     refine J.head (.int .i64 (i + 1)) (congrArg (Value.int .i64) (IntWalk.i64_in _ (by omega))) ?_
     refine J.run 3 K42_15 [(43, .int .i64 (i + 1)), (42, .int .i64 (c.gMoves_n : Int)), (41, .slice c.gMoves_a c.gMoves_n c.gMoves_c), (8, .int .i64 r), (6, .slice (subA qa qc 1 2) ((q.drop 1).length) (qc - 1)), (7, .pointer (some ⟨b7, 0, none⟩)), (5, .map (some b5)), (4, .map (some b4)), (3, .map (some b3)), (2, .map (some b2)), (1, .pointer (some ⟨b1, 0, none⟩))] w14 (by kernel_rfl) ?_
     have S21 : Sep w (box b7 [.int .i64 ms, .int .i64 ma] 37 :: quC mdE (subA qa qc 1 2) (qc - 1) 37 2 (q.drop 1) :: mapC twoV Value.bool b5 (updF G (ms, ma) true) :: mapC twoV chV b4 H :: mapC (Value.int .i64) Value.bool b3 F2 :: mapC (Value.int .i64) Value.bool b2 (updF F1 ms true) :: box b1 [.slice c.gStates_a c.gStates_n c.gStates_c, .slice c.gInputs_a c.gInputs_n c.gInputs_c, .int .i64 c.gStart, .slice c.gMoves_a c.gMoves_n c.gMoves_c] 25 :: tlC outs) w14 := S18.erase 0
     clear S18
     refine J.run 0 K42_15 [(43, .int .i64 (i + 1)), (42, .int .i64 (c.gMoves_n : Int)), (41, .slice c.gMoves_a c.gMoves_n c.gMoves_c), (8, .int .i64 r), (6, .slice (subA qa qc 1 2) ((q.drop 1).length) (qc - 1)), (7, .pointer (some ⟨b7, 0, none⟩)), (5, .map (some b5)), (4, .map (some b4)), (3, .map (some b3)), (2, .map (some b2)), (1, .pointer (some ⟨b1, 0, none⟩))] w14 (by kernel_rfl) ?_
     exact ih2 _ (show ((c.gMoves_n : Int) - (i + 1)).toNat < mm2 from by omega) r (i + 1) w14 (by omega) (by omega) (by omega) ((by rw [ripe_step hr h0 (by omega) (b := false) (by rw [Bool.and_eq_false_iff]; first | exact .inl (beq_eq_false_iff_ne.2 (by omega)) | exact .inr (decide_eq_false (by omega)))]; rfl)) S21 rfl
    refine J.head (.bool true) (congrArg Value.bool (beq_iff_eq.2 fk4)) ?_
    refine J.run 1 K42_21 [(53, .pointer (some ⟨b8, 4, none⟩)), (52, .bool true), (43, .int .i64 i), (42, .int .i64 (c.gMoves_n : Int)), (41, .slice c.gMoves_a c.gMoves_n c.gMoves_c), (8, .int .i64 r), (6, .slice (subA qa qc 1 2) ((q.drop 1).length) (qc - 1)), (7, .pointer (some ⟨b7, 0, none⟩)), (5, .map (some b5)), (4, .map (some b4)), (3, .map (some b3)), (2, .map (some b2)), (1, .pointer (some ⟨b1, 0, none⟩))] w14 (by kernel_rfl) ?_
    refine J.ok (OK.ldBox S18 0 54 3 4 (.int .i64 ((c.gMoves_l.getD (i).toNat (⟨0, 0, 0, 0, 0⟩ : Mv)).gAfter)) (by kernel_rfl) rfl (by kernel_rfl)) ?_
    refine J.run 1 K42_22 [(55, .pointer (some ⟨b7, 1, none⟩)), (54, .int .i64 ((c.gMoves_l.getD (i).toNat (⟨0, 0, 0, 0, 0⟩ : Mv)).gAfter)), (52, .bool true), (43, .int .i64 i), (42, .int .i64 (c.gMoves_n : Int)), (41, .slice c.gMoves_a c.gMoves_n c.gMoves_c), (8, .int .i64 r), (6, .slice (subA qa qc 1 2) ((q.drop 1).length) (qc - 1)), (7, .pointer (some ⟨b7, 0, none⟩)), (5, .map (some b5)), (4, .map (some b4)), (3, .map (some b3)), (2, .map (some b2)), (1, .pointer (some ⟨b1, 0, none⟩))] w14 (by kernel_rfl) ?_
    refine J.ok (OK.ldBox S18 1 56 3 1 (.int .i64 ma) (by kernel_rfl) rfl (by kernel_rfl)) ?_
    refine J.run 3 K42_23 [(58, .bool (decide (((c.gMoves_l.getD (i).toNat (⟨0, 0, 0, 0, 0⟩ : Mv)).gAfter) ≤ ma))), (43, .int .i64 i), (42, .int .i64 (c.gMoves_n : Int)), (41, .slice c.gMoves_a c.gMoves_n c.gMoves_c), (8, .int .i64 r), (6, .slice (subA qa qc 1 2) ((q.drop 1).length) (qc - 1)), (7, .pointer (some ⟨b7, 0, none⟩)), (5, .map (some b5)), (4, .map (some b4)), (3, .map (some b3)), (2, .map (some b2)), (1, .pointer (some ⟨b1, 0, none⟩))] w14 (by kernel_rfl) ?_
    by_cases fk5 : ((c.gMoves_l.getD (i).toNat (⟨0, 0, 0, 0, 0⟩ : Mv)).gAfter) ≤ ma
    rotate_left
    ·skip
     refine J.head (.bool false) (congrArg Value.bool (decide_eq_false fk5)) ?_
     refine J.run 5 K42_26 [(61, .int .i64 (IntKind.wrap .i64 (i + 1))), (42, .int .i64 (c.gMoves_n : Int)), (41, .slice c.gMoves_a c.gMoves_n c.gMoves_c), (8, .int .i64 r), (6, .slice (subA qa qc 1 2) ((q.drop 1).length) (qc - 1)), (7, .pointer (some ⟨b7, 0, none⟩)), (5, .map (some b5)), (4, .map (some b4)), (3, .map (some b3)), (2, .map (some b2)), (1, .pointer (some ⟨b1, 0, none⟩))] w14 (by kernel_rfl) ?_
     refine J.head (.int .i64 (i + 1)) (congrArg (Value.int .i64) (IntWalk.i64_in _ (by omega))) ?_
     refine J.run 3 K42_15 [(43, .int .i64 (i + 1)), (42, .int .i64 (c.gMoves_n : Int)), (41, .slice c.gMoves_a c.gMoves_n c.gMoves_c), (8, .int .i64 r), (6, .slice (subA qa qc 1 2) ((q.drop 1).length) (qc - 1)), (7, .pointer (some ⟨b7, 0, none⟩)), (5, .map (some b5)), (4, .map (some b4)), (3, .map (some b3)), (2, .map (some b2)), (1, .pointer (some ⟨b1, 0, none⟩))] w14 (by kernel_rfl) ?_
     have S20 : Sep w (box b7 [.int .i64 ms, .int .i64 ma] 37 :: quC mdE (subA qa qc 1 2) (qc - 1) 37 2 (q.drop 1) :: mapC twoV Value.bool b5 (updF G (ms, ma) true) :: mapC twoV chV b4 H :: mapC (Value.int .i64) Value.bool b3 F2 :: mapC (Value.int .i64) Value.bool b2 (updF F1 ms true) :: box b1 [.slice c.gStates_a c.gStates_n c.gStates_c, .slice c.gInputs_a c.gInputs_n c.gInputs_c, .int .i64 c.gStart, .slice c.gMoves_a c.gMoves_n c.gMoves_c] 25 :: tlC outs) w14 := S18.erase 0
     clear S18
     refine J.run 0 K42_15 [(43, .int .i64 (i + 1)), (42, .int .i64 (c.gMoves_n : Int)), (41, .slice c.gMoves_a c.gMoves_n c.gMoves_c), (8, .int .i64 r), (6, .slice (subA qa qc 1 2) ((q.drop 1).length) (qc - 1)), (7, .pointer (some ⟨b7, 0, none⟩)), (5, .map (some b5)), (4, .map (some b4)), (3, .map (some b3)), (2, .map (some b2)), (1, .pointer (some ⟨b1, 0, none⟩))] w14 (by kernel_rfl) ?_
     exact ih2 _ (show ((c.gMoves_n : Int) - (i + 1)).toNat < mm2 from by omega) r (i + 1) w14 (by omega) (by omega) (by omega) ((by rw [ripe_step hr h0 (by omega) (b := false) (by rw [Bool.and_eq_false_iff]; first | exact .inl (beq_eq_false_iff_ne.2 (by omega)) | exact .inr (decide_eq_false (by omega)))]; rfl)) S20 rfl
    refine J.head (.bool true) (congrArg Value.bool (decide_eq_true fk5)) ?_
    refine J.run 4 K42_24 [(60, .int .i64 (IntKind.wrap .i64 (r + 1))), (43, .int .i64 i), (42, .int .i64 (c.gMoves_n : Int)), (41, .slice c.gMoves_a c.gMoves_n c.gMoves_c), (6, .slice (subA qa qc 1 2) ((q.drop 1).length) (qc - 1)), (7, .pointer (some ⟨b7, 0, none⟩)), (5, .map (some b5)), (4, .map (some b4)), (3, .map (some b3)), (2, .map (some b2)), (1, .pointer (some ⟨b1, 0, none⟩))] w14 (by kernel_rfl) ?_
    refine J.head (.int .i64 (r + 1)) (congrArg (Value.int .i64) (IntWalk.i64_in _ (by omega))) ?_
    refine J.run 5 K42_25 [(61, .int .i64 (IntKind.wrap .i64 (i + 1))), (8, .int .i64 (r + 1)), (42, .int .i64 (c.gMoves_n : Int)), (41, .slice c.gMoves_a c.gMoves_n c.gMoves_c), (6, .slice (subA qa qc 1 2) ((q.drop 1).length) (qc - 1)), (7, .pointer (some ⟨b7, 0, none⟩)), (5, .map (some b5)), (4, .map (some b4)), (3, .map (some b3)), (2, .map (some b2)), (1, .pointer (some ⟨b1, 0, none⟩))] w14 (by kernel_rfl) ?_
    refine J.head (.int .i64 (i + 1)) (congrArg (Value.int .i64) (IntWalk.i64_in _ (by omega))) ?_
    refine J.run 3 K42_15 [(43, .int .i64 (i + 1)), (8, .int .i64 (r + 1)), (42, .int .i64 (c.gMoves_n : Int)), (41, .slice c.gMoves_a c.gMoves_n c.gMoves_c), (6, .slice (subA qa qc 1 2) ((q.drop 1).length) (qc - 1)), (7, .pointer (some ⟨b7, 0, none⟩)), (5, .map (some b5)), (4, .map (some b4)), (3, .map (some b3)), (2, .map (some b2)), (1, .pointer (some ⟨b1, 0, none⟩))] w14 (by kernel_rfl) ?_
    have S19 : Sep w (box b7 [.int .i64 ms, .int .i64 ma] 37 :: quC mdE (subA qa qc 1 2) (qc - 1) 37 2 (q.drop 1) :: mapC twoV Value.bool b5 (updF G (ms, ma) true) :: mapC twoV chV b4 H :: mapC (Value.int .i64) Value.bool b3 F2 :: mapC (Value.int .i64) Value.bool b2 (updF F1 ms true) :: box b1 [.slice c.gStates_a c.gStates_n c.gStates_c, .slice c.gInputs_a c.gInputs_n c.gInputs_c, .int .i64 c.gStart, .slice c.gMoves_a c.gMoves_n c.gMoves_c] 25 :: tlC outs) w14 := S18.erase 0
    clear S18
    refine J.run 0 K42_15 [(43, .int .i64 (i + 1)), (42, .int .i64 (c.gMoves_n : Int)), (41, .slice c.gMoves_a c.gMoves_n c.gMoves_c), (8, .int .i64 (r + 1)), (6, .slice (subA qa qc 1 2) ((q.drop 1).length) (qc - 1)), (7, .pointer (some ⟨b7, 0, none⟩)), (5, .map (some b5)), (4, .map (some b4)), (3, .map (some b3)), (2, .map (some b2)), (1, .pointer (some ⟨b1, 0, none⟩))] w14 (by kernel_rfl) ?_
    exact ih2 _ (show ((c.gMoves_n : Int) - (i + 1)).toNat < mm2 from by omega) (r + 1) (i + 1) w14 (by omega) (by omega) (by omega) ((by rw [ripe_step hr h0 (by omega) (b := true) (by simp only [Bool.and_eq_true, beq_iff_eq, decide_eq_true_eq]; omega)]; rfl)) S19 rfl
   refine J.head (.bool false) (congrArg Value.bool (decide_eq_false fk3)) ?_
   refine J.run 5 K42_28 [(62, .pointer (some ⟨b7, 0, none⟩)), (8, .int .i64 r), (6, .slice (subA qa qc 1 2) ((q.drop 1).length) (qc - 1)), (7, .pointer (some ⟨b7, 0, none⟩)), (5, .map (some b5)), (4, .map (some b4)), (3, .map (some b3)), (2, .map (some b2)), (1, .pointer (some ⟨b1, 0, none⟩))] w12 (by kernel_rfl) ?_
   refine J.ok (OK.ldBox S16 0 63 3 0 (.int .i64 ms) (by kernel_rfl) rfl (by kernel_rfl)) ?_
   refine J.run 2 K42_29 [(65, .agg #[.int .i64 ms, .int .i64 r]), (6, .slice (subA qa qc 1 2) ((q.drop 1).length) (qc - 1)), (7, .pointer (some ⟨b7, 0, none⟩)), (5, .map (some b5)), (4, .map (some b4)), (3, .map (some b3)), (2, .map (some b2)), (1, .pointer (some ⟨b1, 0, none⟩))] w12 (by kernel_rfl) ?_
   refine J.new S16 11 [.int .i64 0, .int .i64 0] 81 (by kernel_rfl) ?_
   intro b9 w15 S22
   refine J.stBox S22 0 81 0 (.agg #[.int .i64 ms, .int .i64 r]) [.int .i64 ms, .int .i64 r] (box b9 [.int .i64 ms, .int .i64 r] 81 :: box b7 [.int .i64 ms, .int .i64 ma] 37 :: quC mdE (subA qa qc 1 2) (qc - 1) 37 2 (q.drop 1) :: mapC twoV Value.bool b5 (updF G (ms, ma) true) :: mapC twoV chV b4 H :: mapC (Value.int .i64) Value.bool b3 F2 :: mapC (Value.int .i64) Value.bool b2 (updF F1 ms true) :: box b1 [.slice c.gStates_a c.gStates_n c.gStates_c, .slice c.gInputs_a c.gInputs_n c.gInputs_c, .int .i64 c.gStart, .slice c.gMoves_a c.gMoves_n c.gMoves_c] 25 :: tlC outs) (by kernel_rfl) rfl (by kernel_rfl) (by kernel_rfl) rfl ?_
   intro w16 S23
   refine J.run 4 K42_30 [(67, .map (some b4)), (11, .pointer (some ⟨b9, 0, none⟩)), (6, .slice (subA qa qc 1 2) ((q.drop 1).length) (qc - 1)), (7, .pointer (some ⟨b7, 0, none⟩)), (5, .map (some b5)), (4, .map (some b4)), (3, .map (some b3)), (2, .map (some b2)), (1, .pointer (some ⟨b1, 0, none⟩))] w16 (by kernel_rfl) ?_
   refine J.ok (OK.ldBox S23 0 68 81 0 (.agg #[.int .i64 ms, .int .i64 r]) (by kernel_rfl) rfl (by kernel_rfl)) ?_
   have hrr := ripe_all hr (by omega)
   rcases Bool.eq_false_or_eq_true ((H (ms, r)).isSome) with fk6 | fk6
   ·skip
    obtain ⟨ch1, hk1⟩ := Option.isSome_iff_exists.1 fk6
    refine J.ok (OK.lookup S23 4 69 78 81 83 (.agg #[.slice none 0 0, .bool false]) (ms, r) true rfl (by kernel_rfl) (by kernel_rfl) key78 (.tuple #[.agg #[.slice ch1.gmoves_a ch1.gmoves_n ch1.gmoves_c, .bool ch1.gstay], .bool true]) (by rw [hk1]; rfl)) ?_
    obtain ⟨hko, hkn, hkc⟩ := hK _ _ _ hk1
    have hqc := hkc ma hrr.symm
    refine J.head (.tuple #[.agg #[.slice ch1.gmoves_a ch1.gmoves_l.length ch1.gmoves_c, .bool ch1.gstay], .bool true]) (by rw [hkn]) ?_
    refine J.run 3 K42_31 [(71, .bool true), (70, .agg #[.slice ch1.gmoves_a ch1.gmoves_l.length ch1.gmoves_c, .bool ch1.gstay]), (11, .pointer (some ⟨b9, 0, none⟩)), (6, .slice (subA qa qc 1 2) ((q.drop 1).length) (qc - 1)), (7, .pointer (some ⟨b7, 0, none⟩)), (5, .map (some b5)), (4, .map (some b4)), (3, .map (some b3)), (2, .map (some b2)), (1, .pointer (some ⟨b1, 0, none⟩))] w16 (by kernel_rfl) ?_
    refine J.new S23 12 [.slice none 0 0, .bool false] 83 (by kernel_rfl) ?_
    intro b10 w17 S24
    refine J.stBox S24 0 83 0 (.agg #[.slice ch1.gmoves_a ch1.gmoves_l.length ch1.gmoves_c, .bool ch1.gstay]) [.slice ch1.gmoves_a ch1.gmoves_l.length ch1.gmoves_c, .bool ch1.gstay] (box b10 [.slice ch1.gmoves_a ch1.gmoves_l.length ch1.gmoves_c, .bool ch1.gstay] 83 :: box b9 [.int .i64 ms, .int .i64 r] 81 :: box b7 [.int .i64 ms, .int .i64 ma] 37 :: quC mdE (subA qa qc 1 2) (qc - 1) 37 2 (q.drop 1) :: mapC twoV Value.bool b5 (updF G (ms, ma) true) :: mapC twoV chV b4 H :: mapC (Value.int .i64) Value.bool b3 F2 :: mapC (Value.int .i64) Value.bool b2 (updF F1 ms true) :: box b1 [.slice c.gStates_a c.gStates_n c.gStates_c, .slice c.gInputs_a c.gInputs_n c.gInputs_c, .int .i64 c.gStart, .slice c.gMoves_a c.gMoves_n c.gMoves_c] 25 :: tlC outs) (by kernel_rfl) rfl (by kernel_rfl) (by kernel_rfl) rfl ?_
    intro w18 S25
    refine J.run 14 K42_32 [(83, .pointer (some ⟨b10, 0, none⟩)), (12, .pointer (some ⟨b10, 0, none⟩)), (6, .slice (subA qa qc 1 2) ((q.drop 1).length) (qc - 1)), (7, .pointer (some ⟨b7, 0, none⟩)), (5, .map (some b5)), (4, .map (some b4)), (3, .map (some b3)), (2, .map (some b2)), (1, .pointer (some ⟨b1, 0, none⟩))] w18 (by kernel_rfl) ?_
    refine J.ok (OK.ldBox S25 0 84 26 0 (.slice ch1.gmoves_a ch1.gmoves_l.length ch1.gmoves_c) (by kernel_rfl) rfl (by kernel_rfl)) ?_
    have hcl := hqc.2.2
    refine J.run 5 K42_33 [(86, .int .i64 0), (85, .int .i64 (ch1.gmoves_l.length : Int)), (84, .slice ch1.gmoves_a ch1.gmoves_l.length ch1.gmoves_c), (12, .pointer (some ⟨b10, 0, none⟩)), (6, .slice (subA qa qc 1 2) ((q.drop 1).length) (qc - 1)), (7, .pointer (some ⟨b7, 0, none⟩)), (5, .map (some b5)), (4, .map (some b4)), (3, .map (some b3)), (2, .map (some b2)), (1, .pointer (some ⟨b1, 0, none⟩))] w18 (by kernel_rfl) ?_
    have L42_3 : ∀ (mm_ : Nat) (qa2 : Option Addr) (qc2 : Nat) (q2 : List Md) (F3 : Int → Option Bool) (j : Int) (w19 : World), (0 ≤ j) → (j ≤ (ch1.gmoves_l.length : Int)) → (LF ch1.gmoves_l (j).toNat F2 F3) → (q2 = QF c (q.drop 1) ch1.gmoves_l (j).toNat) → Sep w (box b10 [.slice ch1.gmoves_a ch1.gmoves_l.length ch1.gmoves_c, .bool ch1.gstay] 83 :: box b9 [.int .i64 ms, .int .i64 r] 81 :: box b7 [.int .i64 ms, .int .i64 ma] 37 :: quC mdE qa2 qc2 37 2 q2 :: mapC twoV Value.bool b5 (updF G (ms, ma) true) :: mapC twoV chV b4 H :: mapC (Value.int .i64) Value.bool b3 F3 :: mapC (Value.int .i64) Value.bool b2 (updF F1 ms true) :: box b1 [.slice c.gStates_a c.gStates_n c.gStates_c, .slice c.gInputs_a c.gInputs_n c.gInputs_c, .int .i64 c.gStart, .slice c.gMoves_a c.gMoves_n c.gMoves_c] 25 :: tlC outs) w19 → ((ch1.gmoves_l.length : Int) - j).toNat = mm_ → J Try.prog 42 121 R K42_33 [(86, .int .i64 j), (85, .int .i64 (ch1.gmoves_l.length : Int)), (84, .slice ch1.gmoves_a ch1.gmoves_l.length ch1.gmoves_c), (12, .pointer (some ⟨b10, 0, none⟩)), (6, .slice qa2 q2.length qc2), (7, .pointer (some ⟨b7, 0, none⟩)), (5, .map (some b5)), (4, .map (some b4)), (3, .map (some b3)), (2, .map (some b2)), (1, .pointer (some ⟨b1, 0, none⟩))] w19 := by
     intro mm3
     induction mm3 using Nat.strongRecOn with
     | _ mm3 ih3 =>
     intro qa2 qc2 q2 F3 j w19 j0 j1 hF3 hq2 S26 hm3
     have hql := qf_len hq2
     have hji : j < (ch1.gmoves_l.length : Int) → _ := fun h => ch_at hqc j0 h
     refine J.run 5 K42_34 [(87, .bool (decide (j < (ch1.gmoves_l.length : Int)))), (86, .int .i64 j), (85, .int .i64 (ch1.gmoves_l.length : Int)), (84, .slice ch1.gmoves_a ch1.gmoves_l.length ch1.gmoves_c), (12, .pointer (some ⟨b10, 0, none⟩)), (6, .slice qa2 q2.length qc2), (7, .pointer (some ⟨b7, 0, none⟩)), (5, .map (some b5)), (4, .map (some b4)), (3, .map (some b3)), (2, .map (some b2)), (1, .pointer (some ⟨b1, 0, none⟩))] w19 (by kernel_rfl) ?_
     by_cases fk7 : j < (ch1.gmoves_l.length : Int)
     ·skip
      refine J.head (.bool true) (congrArg Value.bool (decide_eq_true fk7)) ?_
      refine J.run 6 K42_35 [(86, .int .i64 j), (85, .int .i64 (ch1.gmoves_l.length : Int)), (84, .slice ch1.gmoves_a ch1.gmoves_l.length ch1.gmoves_c), (12, .pointer (some ⟨b10, 0, none⟩)), (6, .slice qa2 q2.length qc2), (7, .pointer (some ⟨b7, 0, none⟩)), (5, .map (some b5)), (4, .map (some b4)), (3, .map (some b3)), (2, .map (some b2)), (1, .pointer (some ⟨b1, 0, none⟩))] w19 (by kernel_rfl) ?_
      obtain ⟨p3, hp3, hc3⟩ := (cells_tl S26 (fun c_ h_ => (show c_ ∈ [box b10 [.slice ch1.gmoves_a ch1.gmoves_l.length ch1.gmoves_c, .bool ch1.gstay] 83, box b9 [.int .i64 ms, .int .i64 r] 81, box b7 [.int .i64 ms, .int .i64 ma] 37, quC mdE qa2 qc2 37 2 q2, mapC twoV Value.bool b5 (updF G (ms, ma) true), mapC twoV chV b4 H, mapC (Value.int .i64) Value.bool b3 F3, mapC (Value.int .i64) Value.bool b2 (updF F1 ms true), box b1 [.slice c.gStates_a c.gStates_n c.gStates_c, .slice c.gInputs_a c.gInputs_n c.gInputs_c, .int .i64 c.gStart, .slice c.gMoves_a c.gMoves_n c.gMoves_c] 25] ++ tlC outs from List.mem_append.2 (.inr h_))) hko).at 0 (j).toNat (by omega)
      refine J.ok (OK.index 88 26 1 ch1.gmoves_a p3 ch1.gmoves_l.length (j).toNat j (p3.add (j).toNat) (by kernel_rfl) (by kernel_rfl) hp3 (by omega) (by omega) (by rw [Nat.mul_one])) ?_
      refine J.ok (OK.ldCell 89 3 (p3.add (j).toNat) (.int .i64 (ch1.gmoves_l.getD (j).toNat 0)) (by kernel_rfl) (by kernel_rfl) hc3) ?_
      refine J.run 6 K42_36 [(91, .int .i64 (ch1.gmoves_l.getD (j).toNat 0)), (90, .map (some b3)), (15, .int .i64 (ch1.gmoves_l.getD (j).toNat 0)), (86, .int .i64 j), (85, .int .i64 (ch1.gmoves_l.length : Int)), (84, .slice ch1.gmoves_a ch1.gmoves_l.length ch1.gmoves_c), (12, .pointer (some ⟨b10, 0, none⟩)), (6, .slice qa2 q2.length qc2), (7, .pointer (some ⟨b7, 0, none⟩)), (5, .map (some b5)), (4, .map (some b4)), (3, .map (some b3)), (2, .map (some b2)), (1, .pointer (some ⟨b1, 0, none⟩))] w19 (by kernel_rfl) ?_
      refine J.mapUpdate S26 6 68 3 4 (.bool false) (ch1.gmoves_l.getD (j).toNat 0) true rfl (by kernel_rfl) (by kernel_rfl) key68 ?_
      intro w20 S27
      replace S27 : Sep w (box b10 [.slice ch1.gmoves_a ch1.gmoves_l.length ch1.gmoves_c, .bool ch1.gstay] 83 :: box b9 [.int .i64 ms, .int .i64 r] 81 :: box b7 [.int .i64 ms, .int .i64 ma] 37 :: quC mdE qa2 qc2 37 2 q2 :: mapC twoV Value.bool b5 (updF G (ms, ma) true) :: mapC twoV chV b4 H :: mapC (Value.int .i64) Value.bool b3 (updF F3 (ch1.gmoves_l.getD (j).toNat 0) true) :: mapC (Value.int .i64) Value.bool b2 (updF F1 ms true) :: box b1 [.slice c.gStates_a c.gStates_n c.gStates_c, .slice c.gInputs_a c.gInputs_n c.gInputs_c, .int .i64 c.gStart, .slice c.gMoves_a c.gMoves_n c.gMoves_c] 25 :: tlC outs) w20 := S27
      refine J.run 4 K42_37 [(93, .pointer (some ⟨b1, 3, none⟩)), (92, .slice qa2 q2.length qc2), (15, .int .i64 (ch1.gmoves_l.getD (j).toNat 0)), (86, .int .i64 j), (85, .int .i64 (ch1.gmoves_l.length : Int)), (84, .slice ch1.gmoves_a ch1.gmoves_l.length ch1.gmoves_c), (12, .pointer (some ⟨b10, 0, none⟩)), (7, .pointer (some ⟨b7, 0, none⟩)), (5, .map (some b5)), (4, .map (some b4)), (3, .map (some b3)), (2, .map (some b2)), (1, .pointer (some ⟨b1, 0, none⟩))] w20 (by kernel_rfl) ?_
      refine J.ok (OK.ldBox S27 8 94 23 3 (.slice c.gMoves_a c.gMoves_n c.gMoves_c) (by kernel_rfl) rfl (by kernel_rfl)) ?_
      refine J.run 1 K42_38 [(95, .int .i64 (ch1.gmoves_l.getD (j).toNat 0)), (94, .slice c.gMoves_a c.gMoves_n c.gMoves_c), (92, .slice qa2 q2.length qc2), (86, .int .i64 j), (85, .int .i64 (ch1.gmoves_l.length : Int)), (84, .slice ch1.gmoves_a ch1.gmoves_l.length ch1.gmoves_c), (12, .pointer (some ⟨b10, 0, none⟩)), (7, .pointer (some ⟨b7, 0, none⟩)), (5, .map (some b5)), (4, .map (some b4)), (3, .map (some b3)), (2, .map (some b2)), (1, .pointer (some ⟨b1, 0, none⟩))] w20 (by kernel_rfl) ?_
      obtain ⟨p4, hp4, hc4⟩ := q9.at (⟨0, 0, 0, 0, 0⟩ : Mv) (ch1.gmoves_l.getD (j).toNat 0).toNat (by omega)
      have hel2 := getD_Q q10 (⟨0, 0, 0, 0, 0⟩ : Mv) (n := (ch1.gmoves_l.getD (j).toNat 0).toNat) (by have := q9.len_eq; omega)
      obtain ⟨q16, q17, q18, q19, q20, _⟩ := id hel2
      refine J.ok (OK.index 96 23 5 c.gMoves_a p4 c.gMoves_n (ch1.gmoves_l.getD (j).toNat 0).toNat (ch1.gmoves_l.getD (j).toNat 0) (p4.add ((ch1.gmoves_l.getD (j).toNat 0).toNat * 5)) (by kernel_rfl) (by kernel_rfl) hp4 (by omega) (by omega) rfl) ?_
      refine J.run 1 K42_39 [(97, .pointer (some ((p4.add ((ch1.gmoves_l.getD (j).toNat 0).toNat * 5)).add 1))), (92, .slice qa2 q2.length qc2), (86, .int .i64 j), (85, .int .i64 (ch1.gmoves_l.length : Int)), (84, .slice ch1.gmoves_a ch1.gmoves_l.length ch1.gmoves_c), (12, .pointer (some ⟨b10, 0, none⟩)), (7, .pointer (some ⟨b7, 0, none⟩)), (5, .map (some b5)), (4, .map (some b4)), (3, .map (some b3)), (2, .map (some b2)), (1, .pointer (some ⟨b1, 0, none⟩))] w20 (by kernel_rfl) ?_
      refine J.ok (OK.ldCell 98 3 ((p4.add ((ch1.gmoves_l.getD (j).toNat 0).toNat * 5)).add 1) (.int .i64 ((c.gMoves_l.getD (ch1.gmoves_l.getD (j).toNat 0).toNat (⟨0, 0, 0, 0, 0⟩ : Mv)).gTo)) (by kernel_rfl) (by kernel_rfl) (S27.cell (hc4 1 _ rfl))) ?_
      refine J.run 1 K42_40 [(99, .agg #[.int .i64 ((c.gMoves_l.getD (ch1.gmoves_l.getD (j).toNat 0).toNat (⟨0, 0, 0, 0, 0⟩ : Mv)).gTo), .int .i64 0]), (92, .slice qa2 q2.length qc2), (86, .int .i64 j), (85, .int .i64 (ch1.gmoves_l.length : Int)), (84, .slice ch1.gmoves_a ch1.gmoves_l.length ch1.gmoves_c), (12, .pointer (some ⟨b10, 0, none⟩)), (7, .pointer (some ⟨b7, 0, none⟩)), (5, .map (some b5)), (4, .map (some b4)), (3, .map (some b3)), (2, .map (some b2)), (1, .pointer (some ⟨b1, 0, none⟩))] w20 (by kernel_rfl) ?_
      refine J.newSlice S27 100 1 [.int .i64 ((c.gMoves_l.getD (ch1.gmoves_l.getD (j).toNat 0).toNat (⟨0, 0, 0, 0, 0⟩ : Mv)).gTo), .int .i64 0] 37 (by kernel_rfl) ?_
      intro b11 w21 S28
      refine J.appendQ mdE S28 4 q2 (⟨(c.gMoves_l.getD (ch1.gmoves_l.getD (j).toNat 0).toNat (⟨0, 0, 0, 0, 0⟩ : Mv)).gTo, 0⟩ : Md) 101 80 (.agg #[.int .i64 0, .int .i64 0]) 16 ⟨b11, 0, none⟩ 1 rfl (by kernel_rfl) (by kernel_rfl) (by kernel_rfl) (by kernel_rfl) (by decide) (fun _ => rfl) (box_cells (S28.nth 0 rfl)) (by kernel_rfl) (⟨by omega, by omega⟩) ?_
      intro qa1 qc1 w22 S29
      replace S29 : Sep w (box b11 [.int .i64 ((c.gMoves_l.getD (ch1.gmoves_l.getD (j).toNat 0).toNat (⟨0, 0, 0, 0, 0⟩ : Mv)).gTo), .int .i64 0] 37 :: box b10 [.slice ch1.gmoves_a ch1.gmoves_l.length ch1.gmoves_c, .bool ch1.gstay] 83 :: box b9 [.int .i64 ms, .int .i64 r] 81 :: box b7 [.int .i64 ms, .int .i64 ma] 37 :: quC mdE qa1 qc1 37 2 (q2 ++ [(⟨(c.gMoves_l.getD (ch1.gmoves_l.getD (j).toNat 0).toNat (⟨0, 0, 0, 0, 0⟩ : Mv)).gTo, 0⟩ : Md)]) :: mapC twoV Value.bool b5 (updF G (ms, ma) true) :: mapC twoV chV b4 H :: mapC (Value.int .i64) Value.bool b3 (updF F3 (ch1.gmoves_l.getD (j).toNat 0) true) :: mapC (Value.int .i64) Value.bool b2 (updF F1 ms true) :: box b1 [.slice c.gStates_a c.gStates_n c.gStates_c, .slice c.gInputs_a c.gInputs_n c.gInputs_c, .int .i64 c.gStart, .slice c.gMoves_a c.gMoves_n c.gMoves_c] 25 :: tlC outs) w22 := S29
      have S30 : Sep w (box b10 [.slice ch1.gmoves_a ch1.gmoves_l.length ch1.gmoves_c, .bool ch1.gstay] 83 :: box b9 [.int .i64 ms, .int .i64 r] 81 :: box b7 [.int .i64 ms, .int .i64 ma] 37 :: quC mdE qa1 qc1 37 2 (q2 ++ [(⟨(c.gMoves_l.getD (ch1.gmoves_l.getD (j).toNat 0).toNat (⟨0, 0, 0, 0, 0⟩ : Mv)).gTo, 0⟩ : Md)]) :: mapC twoV Value.bool b5 (updF G (ms, ma) true) :: mapC twoV chV b4 H :: mapC (Value.int .i64) Value.bool b3 (updF F3 (ch1.gmoves_l.getD (j).toNat 0) true) :: mapC (Value.int .i64) Value.bool b2 (updF F1 ms true) :: box b1 [.slice c.gStates_a c.gStates_n c.gStates_c, .slice c.gInputs_a c.gInputs_n c.gInputs_c, .int .i64 c.gStart, .slice c.gMoves_a c.gMoves_n c.gMoves_c] 25 :: tlC outs) w22 := S29.erase 0
      clear S29
      refine J.run 5 K42_41 [(102, .int .i64 (IntKind.wrap .i64 (j + 1))), (6, .slice qa1 ((q2 ++ [(⟨(c.gMoves_l.getD (ch1.gmoves_l.getD (j).toNat 0).toNat (⟨0, 0, 0, 0, 0⟩ : Mv)).gTo, 0⟩ : Md)]).length) qc1), (85, .int .i64 (ch1.gmoves_l.length : Int)), (84, .slice ch1.gmoves_a ch1.gmoves_l.length ch1.gmoves_c), (12, .pointer (some ⟨b10, 0, none⟩)), (7, .pointer (some ⟨b7, 0, none⟩)), (5, .map (some b5)), (4, .map (some b4)), (3, .map (some b3)), (2, .map (some b2)), (1, .pointer (some ⟨b1, 0, none⟩))] w22 (by kernel_rfl) ?_
      refine J.head (.int .i64 (j + 1)) (congrArg (Value.int .i64) (IntWalk.i64_in _ (by omega))) ?_
      refine J.run 3 K42_33 [(86, .int .i64 (j + 1)), (6, .slice qa1 ((q2 ++ [(⟨(c.gMoves_l.getD (ch1.gmoves_l.getD (j).toNat 0).toNat (⟨0, 0, 0, 0, 0⟩ : Mv)).gTo, 0⟩ : Md)]).length) qc1), (85, .int .i64 (ch1.gmoves_l.length : Int)), (84, .slice ch1.gmoves_a ch1.gmoves_l.length ch1.gmoves_c), (12, .pointer (some ⟨b10, 0, none⟩)), (7, .pointer (some ⟨b7, 0, none⟩)), (5, .map (some b5)), (4, .map (some b4)), (3, .map (some b3)), (2, .map (some b2)), (1, .pointer (some ⟨b1, 0, none⟩))] w22 (by kernel_rfl) ?_
      refine J.run 0 K42_33 [(86, .int .i64 (j + 1)), (85, .int .i64 (ch1.gmoves_l.length : Int)), (84, .slice ch1.gmoves_a ch1.gmoves_l.length ch1.gmoves_c), (12, .pointer (some ⟨b10, 0, none⟩)), (6, .slice qa1 ((q2 ++ [(⟨(c.gMoves_l.getD (ch1.gmoves_l.getD (j).toNat 0).toNat (⟨0, 0, 0, 0, 0⟩ : Mv)).gTo, 0⟩ : Md)]).length) qc1), (7, .pointer (some ⟨b7, 0, none⟩)), (5, .map (some b5)), (4, .map (some b4)), (3, .map (some b3)), (2, .map (some b2)), (1, .pointer (some ⟨b1, 0, none⟩))] w22 (by kernel_rfl) ?_
      exact ih3 _ (show ((ch1.gmoves_l.length : Int) - (j + 1)).toNat < mm3 from by omega) qa1 qc1 (q2 ++ [(⟨(c.gMoves_l.getD (ch1.gmoves_l.getD (j).toNat 0).toNat (⟨0, 0, 0, 0, 0⟩ : Mv)).gTo, 0⟩ : Md)]) (updF F3 (ch1.gmoves_l.getD (j).toNat 0) true) (j + 1) w22 (by omega) (by omega) (lf_step hF3 j0 (by omega)) (qf_step hq2 j0 (by omega) rfl) S30 rfl
     refine J.head (.bool false) (congrArg Value.bool (decide_eq_false fk7)) ?_
     refine J.run 5 K42_42 [(103, .pointer (some ⟨b10, 1, none⟩)), (6, .slice qa2 q2.length qc2), (7, .pointer (some ⟨b7, 0, none⟩)), (5, .map (some b5)), (4, .map (some b4)), (3, .map (some b3)), (2, .map (some b2)), (1, .pointer (some ⟨b1, 0, none⟩))] w19 (by kernel_rfl) ?_
     refine J.ok (OK.ldBox S26 0 104 4 1 (.bool ch1.gstay) (by kernel_rfl) rfl (by kernel_rfl)) ?_
     refine J.run 1 K42_43 [(105, .bool ch1.gstay), (6, .slice qa2 q2.length qc2), (7, .pointer (some ⟨b7, 0, none⟩)), (5, .map (some b5)), (4, .map (some b4)), (3, .map (some b3)), (2, .map (some b2)), (1, .pointer (some ⟨b1, 0, none⟩))] w19 (by kernel_rfl) ?_
     rcases Bool.eq_false_or_eq_true ch1.gstay with fk8 | fk8
     rotate_left
     ·skip
      refine J.head (.bool false) (congrArg Value.bool fk8) ?_
      refine J.run 9 K42_6 [(6, .slice qa2 q2.length qc2), (5, .map (some b5)), (4, .map (some b4)), (3, .map (some b3)), (2, .map (some b2)), (1, .pointer (some ⟨b1, 0, none⟩))] w19 (by kernel_rfl) ?_
      have S40 : Sep w (box b10 [.slice ch1.gmoves_a ch1.gmoves_l.length ch1.gmoves_c, .bool ch1.gstay] 83 :: box b9 [.int .i64 ms, .int .i64 r] 81 :: quC mdE qa2 qc2 37 2 q2 :: mapC twoV Value.bool b5 (updF G (ms, ma) true) :: mapC twoV chV b4 H :: mapC (Value.int .i64) Value.bool b3 F3 :: mapC (Value.int .i64) Value.bool b2 (updF F1 ms true) :: box b1 [.slice c.gStates_a c.gStates_n c.gStates_c, .slice c.gInputs_a c.gInputs_n c.gInputs_c, .int .i64 c.gStart, .slice c.gMoves_a c.gMoves_n c.gMoves_c] 25 :: tlC outs) w19 := S26.erase 2
      clear S26
      have S41 : Sep w (box b10 [.slice ch1.gmoves_a ch1.gmoves_l.length ch1.gmoves_c, .bool ch1.gstay] 83 :: quC mdE qa2 qc2 37 2 q2 :: mapC twoV Value.bool b5 (updF G (ms, ma) true) :: mapC twoV chV b4 H :: mapC (Value.int .i64) Value.bool b3 F3 :: mapC (Value.int .i64) Value.bool b2 (updF F1 ms true) :: box b1 [.slice c.gStates_a c.gStates_n c.gStates_c, .slice c.gInputs_a c.gInputs_n c.gInputs_c, .int .i64 c.gStart, .slice c.gMoves_a c.gMoves_n c.gMoves_c] 25 :: tlC outs) w19 := S40.erase 1
      clear S40
      have S42 : Sep w (quC mdE qa2 qc2 37 2 q2 :: mapC twoV Value.bool b5 (updF G (ms, ma) true) :: mapC twoV chV b4 H :: mapC (Value.int .i64) Value.bool b3 F3 :: mapC (Value.int .i64) Value.bool b2 (updF F1 ms true) :: box b1 [.slice c.gStates_a c.gStates_n c.gStates_c, .slice c.gInputs_a c.gInputs_n c.gInputs_c, .int .i64 c.gStart, .slice c.gMoves_a c.gMoves_n c.gMoves_c] 25 :: tlC outs) w19 := S41.erase 0
      clear S41
      refine J.run 0 K42_6 [(6, .slice qa2 q2.length qc2), (5, .map (some b5)), (4, .map (some b4)), (3, .map (some b3)), (2, .map (some b2)), (1, .pointer (some ⟨b1, 0, none⟩))] w19 (by kernel_rfl) ?_
      exact ih1 _ (show unG (updF G (ms, ma) true) * 1100 + (q2).length < mm1 from (by first | omega | (rw [List.length_append, List.length_singleton]; omega))) qa2 qc2 q2 (updF F1 ms true) F3 (updF G (ms, ma) true) H outs w19 ((by first | omega | (rw [List.length_append, List.length_singleton]; omega))) (sinv_new hI (by omega) hme hqc (lf_end hF3 (by omega)) (qf_no hq2 (by omega) (fun h_ => by rw [fk8] at h_; cases h_.1))) (hK) S42 rfl
     refine J.head (.bool true) (congrArg Value.bool fk8) ?_
     refine J.run 1 K42_44 [(106, .pointer (some ⟨b7, 1, none⟩)), (105, .bool true), (6, .slice qa2 q2.length qc2), (7, .pointer (some ⟨b7, 0, none⟩)), (5, .map (some b5)), (4, .map (some b4)), (3, .map (some b3)), (2, .map (some b2)), (1, .pointer (some ⟨b1, 0, none⟩))] w19 (by kernel_rfl) ?_
     refine J.ok (OK.ldBox S26 2 107 3 1 (.int .i64 ma) (by kernel_rfl) rfl (by kernel_rfl)) ?_
     refine J.run 3 K42_45 [(109, .bool (decide (ma < 1000))), (6, .slice qa2 q2.length qc2), (7, .pointer (some ⟨b7, 0, none⟩)), (5, .map (some b5)), (4, .map (some b4)), (3, .map (some b3)), (2, .map (some b2)), (1, .pointer (some ⟨b1, 0, none⟩))] w19 (by kernel_rfl) ?_
     by_cases fk9 : ma < 1000
     rotate_left
     ·skip
      refine J.head (.bool false) (congrArg Value.bool (decide_eq_false fk9)) ?_
      refine J.run 4 K42_6 [(6, .slice qa2 q2.length qc2), (5, .map (some b5)), (4, .map (some b4)), (3, .map (some b3)), (2, .map (some b2)), (1, .pointer (some ⟨b1, 0, none⟩))] w19 (by kernel_rfl) ?_
      have S37 : Sep w (box b10 [.slice ch1.gmoves_a ch1.gmoves_l.length ch1.gmoves_c, .bool ch1.gstay] 83 :: box b9 [.int .i64 ms, .int .i64 r] 81 :: quC mdE qa2 qc2 37 2 q2 :: mapC twoV Value.bool b5 (updF G (ms, ma) true) :: mapC twoV chV b4 H :: mapC (Value.int .i64) Value.bool b3 F3 :: mapC (Value.int .i64) Value.bool b2 (updF F1 ms true) :: box b1 [.slice c.gStates_a c.gStates_n c.gStates_c, .slice c.gInputs_a c.gInputs_n c.gInputs_c, .int .i64 c.gStart, .slice c.gMoves_a c.gMoves_n c.gMoves_c] 25 :: tlC outs) w19 := S26.erase 2
      clear S26
      have S38 : Sep w (box b10 [.slice ch1.gmoves_a ch1.gmoves_l.length ch1.gmoves_c, .bool ch1.gstay] 83 :: quC mdE qa2 qc2 37 2 q2 :: mapC twoV Value.bool b5 (updF G (ms, ma) true) :: mapC twoV chV b4 H :: mapC (Value.int .i64) Value.bool b3 F3 :: mapC (Value.int .i64) Value.bool b2 (updF F1 ms true) :: box b1 [.slice c.gStates_a c.gStates_n c.gStates_c, .slice c.gInputs_a c.gInputs_n c.gInputs_c, .int .i64 c.gStart, .slice c.gMoves_a c.gMoves_n c.gMoves_c] 25 :: tlC outs) w19 := S37.erase 1
      clear S37
      have S39 : Sep w (quC mdE qa2 qc2 37 2 q2 :: mapC twoV Value.bool b5 (updF G (ms, ma) true) :: mapC twoV chV b4 H :: mapC (Value.int .i64) Value.bool b3 F3 :: mapC (Value.int .i64) Value.bool b2 (updF F1 ms true) :: box b1 [.slice c.gStates_a c.gStates_n c.gStates_c, .slice c.gInputs_a c.gInputs_n c.gInputs_c, .int .i64 c.gStart, .slice c.gMoves_a c.gMoves_n c.gMoves_c] 25 :: tlC outs) w19 := S38.erase 0
      clear S38
      refine J.run 0 K42_6 [(6, .slice qa2 q2.length qc2), (5, .map (some b5)), (4, .map (some b4)), (3, .map (some b3)), (2, .map (some b2)), (1, .pointer (some ⟨b1, 0, none⟩))] w19 (by kernel_rfl) ?_
      exact ih1 _ (show unG (updF G (ms, ma) true) * 1100 + (q2).length < mm1 from (by first | omega | (rw [List.length_append, List.length_singleton]; omega))) qa2 qc2 q2 (updF F1 ms true) F3 (updF G (ms, ma) true) H outs w19 ((by first | omega | (rw [List.length_append, List.length_singleton]; omega))) (sinv_new hI (by omega) hme hqc (lf_end hF3 (by omega)) (qf_no hq2 (by omega) (fun h_ => absurd h_.2 (by omega)))) (hK) S39 rfl
     refine J.head (.bool true) (congrArg Value.bool (decide_eq_true fk9)) ?_
     refine J.run 4 K42_46 [(111, .pointer (some ⟨b7, 0, none⟩)), (110, .slice qa2 q2.length qc2), (7, .pointer (some ⟨b7, 0, none⟩)), (5, .map (some b5)), (4, .map (some b4)), (3, .map (some b3)), (2, .map (some b2)), (1, .pointer (some ⟨b1, 0, none⟩))] w19 (by kernel_rfl) ?_
     refine J.ok (OK.ldBox S26 2 112 3 0 (.int .i64 ms) (by kernel_rfl) rfl (by kernel_rfl)) ?_
     refine J.run 1 K42_47 [(113, .pointer (some ⟨b7, 1, none⟩)), (112, .int .i64 ms), (110, .slice qa2 q2.length qc2), (5, .map (some b5)), (4, .map (some b4)), (3, .map (some b3)), (2, .map (some b2)), (1, .pointer (some ⟨b1, 0, none⟩))] w19 (by kernel_rfl) ?_
     refine J.ok (OK.ldBox S26 2 114 3 1 (.int .i64 ma) (by kernel_rfl) rfl (by kernel_rfl)) ?_
     refine J.run 1 K42_48 [(115, .int .i64 (IntKind.wrap .i64 (ma + 1))), (112, .int .i64 ms), (110, .slice qa2 q2.length qc2), (5, .map (some b5)), (4, .map (some b4)), (3, .map (some b3)), (2, .map (some b2)), (1, .pointer (some ⟨b1, 0, none⟩))] w19 (by kernel_rfl) ?_
     refine J.head (.int .i64 (ma + 1)) (congrArg (Value.int .i64) (IntWalk.i64_in _ (by omega))) ?_
     refine J.run 1 K42_49 [(116, .agg #[.int .i64 ms, .int .i64 (ma + 1)]), (110, .slice qa2 q2.length qc2), (5, .map (some b5)), (4, .map (some b4)), (3, .map (some b3)), (2, .map (some b2)), (1, .pointer (some ⟨b1, 0, none⟩))] w19 (by kernel_rfl) ?_
     refine J.newSlice S26 117 1 [.int .i64 ms, .int .i64 (ma + 1)] 37 (by kernel_rfl) ?_
     intro b12 w23 S31
     refine J.appendQ mdE S31 4 q2 (⟨ms, ma + 1⟩ : Md) 118 80 (.agg #[.int .i64 0, .int .i64 0]) 16 ⟨b12, 0, none⟩ 1 rfl (by kernel_rfl) (by kernel_rfl) (by kernel_rfl) (by kernel_rfl) (by decide) (fun _ => rfl) (box_cells (S31.nth 0 rfl)) (by kernel_rfl) (⟨by omega, by omega⟩) ?_
     intro qa2 qc2 w24 S32
     replace S32 : Sep w (box b12 [.int .i64 ms, .int .i64 (ma + 1)] 37 :: box b10 [.slice ch1.gmoves_a ch1.gmoves_l.length ch1.gmoves_c, .bool ch1.gstay] 83 :: box b9 [.int .i64 ms, .int .i64 r] 81 :: box b7 [.int .i64 ms, .int .i64 ma] 37 :: quC mdE qa2 qc2 37 2 (q2 ++ [(⟨ms, ma + 1⟩ : Md)]) :: mapC twoV Value.bool b5 (updF G (ms, ma) true) :: mapC twoV chV b4 H :: mapC (Value.int .i64) Value.bool b3 F3 :: mapC (Value.int .i64) Value.bool b2 (updF F1 ms true) :: box b1 [.slice c.gStates_a c.gStates_n c.gStates_c, .slice c.gInputs_a c.gInputs_n c.gInputs_c, .int .i64 c.gStart, .slice c.gMoves_a c.gMoves_n c.gMoves_c] 25 :: tlC outs) w24 := S32
     have S33 : Sep w (box b10 [.slice ch1.gmoves_a ch1.gmoves_l.length ch1.gmoves_c, .bool ch1.gstay] 83 :: box b9 [.int .i64 ms, .int .i64 r] 81 :: box b7 [.int .i64 ms, .int .i64 ma] 37 :: quC mdE qa2 qc2 37 2 (q2 ++ [(⟨ms, ma + 1⟩ : Md)]) :: mapC twoV Value.bool b5 (updF G (ms, ma) true) :: mapC twoV chV b4 H :: mapC (Value.int .i64) Value.bool b3 F3 :: mapC (Value.int .i64) Value.bool b2 (updF F1 ms true) :: box b1 [.slice c.gStates_a c.gStates_n c.gStates_c, .slice c.gInputs_a c.gInputs_n c.gInputs_c, .int .i64 c.gStart, .slice c.gMoves_a c.gMoves_n c.gMoves_c] 25 :: tlC outs) w24 := S32.erase 0
     clear S32
     refine J.run 4 K42_6 [(6, .slice qa2 ((q2 ++ [(⟨ms, ma + 1⟩ : Md)]).length) qc2), (5, .map (some b5)), (4, .map (some b4)), (3, .map (some b3)), (2, .map (some b2)), (1, .pointer (some ⟨b1, 0, none⟩))] w24 (by kernel_rfl) ?_
     have S34 : Sep w (box b10 [.slice ch1.gmoves_a ch1.gmoves_l.length ch1.gmoves_c, .bool ch1.gstay] 83 :: box b9 [.int .i64 ms, .int .i64 r] 81 :: quC mdE qa2 qc2 37 2 (q2 ++ [(⟨ms, ma + 1⟩ : Md)]) :: mapC twoV Value.bool b5 (updF G (ms, ma) true) :: mapC twoV chV b4 H :: mapC (Value.int .i64) Value.bool b3 F3 :: mapC (Value.int .i64) Value.bool b2 (updF F1 ms true) :: box b1 [.slice c.gStates_a c.gStates_n c.gStates_c, .slice c.gInputs_a c.gInputs_n c.gInputs_c, .int .i64 c.gStart, .slice c.gMoves_a c.gMoves_n c.gMoves_c] 25 :: tlC outs) w24 := S33.erase 2
     clear S33
     have S35 : Sep w (box b10 [.slice ch1.gmoves_a ch1.gmoves_l.length ch1.gmoves_c, .bool ch1.gstay] 83 :: quC mdE qa2 qc2 37 2 (q2 ++ [(⟨ms, ma + 1⟩ : Md)]) :: mapC twoV Value.bool b5 (updF G (ms, ma) true) :: mapC twoV chV b4 H :: mapC (Value.int .i64) Value.bool b3 F3 :: mapC (Value.int .i64) Value.bool b2 (updF F1 ms true) :: box b1 [.slice c.gStates_a c.gStates_n c.gStates_c, .slice c.gInputs_a c.gInputs_n c.gInputs_c, .int .i64 c.gStart, .slice c.gMoves_a c.gMoves_n c.gMoves_c] 25 :: tlC outs) w24 := S34.erase 1
     clear S34
     have S36 : Sep w (quC mdE qa2 qc2 37 2 (q2 ++ [(⟨ms, ma + 1⟩ : Md)]) :: mapC twoV Value.bool b5 (updF G (ms, ma) true) :: mapC twoV chV b4 H :: mapC (Value.int .i64) Value.bool b3 F3 :: mapC (Value.int .i64) Value.bool b2 (updF F1 ms true) :: box b1 [.slice c.gStates_a c.gStates_n c.gStates_c, .slice c.gInputs_a c.gInputs_n c.gInputs_c, .int .i64 c.gStart, .slice c.gMoves_a c.gMoves_n c.gMoves_c] 25 :: tlC outs) w24 := S35.erase 0
     clear S35
     refine J.run 0 K42_6 [(6, .slice qa2 ((q2 ++ [(⟨ms, ma + 1⟩ : Md)]).length) qc2), (5, .map (some b5)), (4, .map (some b4)), (3, .map (some b3)), (2, .map (some b2)), (1, .pointer (some ⟨b1, 0, none⟩))] w24 (by kernel_rfl) ?_
     exact ih1 _ (show unG (updF G (ms, ma) true) * 1100 + ((q2 ++ [(⟨ms, ma + 1⟩ : Md)])).length < mm1 from (by first | omega | (rw [List.length_append, List.length_singleton]; omega))) qa2 qc2 (q2 ++ [(⟨ms, ma + 1⟩ : Md)]) (updF F1 ms true) F3 (updF G (ms, ma) true) H outs w24 ((by first | omega | (rw [List.length_append, List.length_singleton]; omega))) (sinv_new hI (by omega) hme hqc (lf_end hF3 (by omega)) (qf_yes hq2 (by omega) fk8 (by omega))) (hK) S36 rfl
    exact L42_3 _ (subA qa qc 1 2) (qc - 1) (q.drop 1) F2 0 w18 (by omega) (by omega) (lf_start _ _) ((by unfold QF; simp)) S25 rfl
   have hk2 : H (ms, r) = none := by cases h_ : H (ms, r) with | none => rfl | some x_ => rw [h_] at fk6; cases fk6
   refine J.ok (OK.lookup S23 4 69 78 81 83 (.agg #[.slice none 0 0, .bool false]) (ms, r) true rfl (by kernel_rfl) (by kernel_rfl) key78 (.tuple #[.agg #[.slice none 0 0, .bool false], .bool false]) (by rw [hk2]; rfl)) ?_
   refine J.run 3 K42_50 [(71, .bool false), (70, .agg #[.slice none 0 0, .bool false]), (11, .pointer (some ⟨b9, 0, none⟩)), (6, .slice (subA qa qc 1 2) ((q.drop 1).length) (qc - 1)), (7, .pointer (some ⟨b7, 0, none⟩)), (5, .map (some b5)), (4, .map (some b4)), (3, .map (some b3)), (2, .map (some b2)), (1, .pointer (some ⟨b1, 0, none⟩))] w16 (by kernel_rfl) ?_
   refine J.new S23 12 [.slice none 0 0, .bool false] 83 (by kernel_rfl) ?_
   intro b13 w25 S43
   refine J.stBox S43 0 83 0 (.agg #[.slice none 0 0, .bool false]) [.slice none 0 0, .bool false] (box b13 [.slice none 0 0, .bool false] 83 :: box b9 [.int .i64 ms, .int .i64 r] 81 :: box b7 [.int .i64 ms, .int .i64 ma] 37 :: quC mdE (subA qa qc 1 2) (qc - 1) 37 2 (q.drop 1) :: mapC twoV Value.bool b5 (updF G (ms, ma) true) :: mapC twoV chV b4 H :: mapC (Value.int .i64) Value.bool b3 F2 :: mapC (Value.int .i64) Value.bool b2 (updF F1 ms true) :: box b1 [.slice c.gStates_a c.gStates_n c.gStates_c, .slice c.gInputs_a c.gInputs_n c.gInputs_c, .int .i64 c.gStart, .slice c.gMoves_a c.gMoves_n c.gMoves_c] 25 :: tlC outs) (by kernel_rfl) rfl (by kernel_rfl) (by kernel_rfl) rfl ?_
   intro w26 S44
   refine J.run 11 K42_51 [(12, .pointer (some ⟨b13, 0, none⟩)), (11, .pointer (some ⟨b9, 0, none⟩)), (6, .slice (subA qa qc 1 2) ((q.drop 1).length) (qc - 1)), (7, .pointer (some ⟨b7, 0, none⟩)), (5, .map (some b5)), (4, .map (some b4)), (3, .map (some b3)), (2, .map (some b2)), (1, .pointer (some ⟨b1, 0, none⟩))] w26 (by kernel_rfl) ?_
   refine J.ok (OK.ldBox S44 8 74 25 0 (.agg #[.slice c.gStates_a c.gStates_n c.gStates_c, .slice c.gInputs_a c.gInputs_n c.gInputs_c, .int .i64 c.gStart, .slice c.gMoves_a c.gMoves_n c.gMoves_c]) (by kernel_rfl) rfl (by kernel_rfl)) ?_
   refine J.run 1 K42_52 [(75, .pointer (some ⟨b7, 0, none⟩)), (74, .agg #[.slice c.gStates_a c.gStates_n c.gStates_c, .slice c.gInputs_a c.gInputs_n c.gInputs_c, .int .i64 c.gStart, .slice c.gMoves_a c.gMoves_n c.gMoves_c]), (12, .pointer (some ⟨b13, 0, none⟩)), (11, .pointer (some ⟨b9, 0, none⟩)), (6, .slice (subA qa qc 1 2) ((q.drop 1).length) (qc - 1)), (7, .pointer (some ⟨b7, 0, none⟩)), (5, .map (some b5)), (4, .map (some b4)), (3, .map (some b3)), (2, .map (some b2)), (1, .pointer (some ⟨b1, 0, none⟩))] w26 (by kernel_rfl) ?_
   refine J.ok (OK.ldBox S44 2 76 3 0 (.int .i64 ms) (by kernel_rfl) rfl (by kernel_rfl)) ?_
   refine J.run 1 K42_53 [(77, .pointer (some ⟨b7, 1, none⟩)), (76, .int .i64 ms), (74, .agg #[.slice c.gStates_a c.gStates_n c.gStates_c, .slice c.gInputs_a c.gInputs_n c.gInputs_c, .int .i64 c.gStart, .slice c.gMoves_a c.gMoves_n c.gMoves_c]), (12, .pointer (some ⟨b13, 0, none⟩)), (11, .pointer (some ⟨b9, 0, none⟩)), (6, .slice (subA qa qc 1 2) ((q.drop 1).length) (qc - 1)), (7, .pointer (some ⟨b7, 0, none⟩)), (5, .map (some b5)), (4, .map (some b4)), (3, .map (some b3)), (2, .map (some b2)), (1, .pointer (some ⟨b1, 0, none⟩))] w26 (by kernel_rfl) ?_
   refine J.ok (OK.ldBox S44 2 78 3 1 (.int .i64 ma) (by kernel_rfl) rfl (by kernel_rfl)) ?_
   refine J.callF 79 51 #[.agg #[.slice c.gStates_a c.gStates_n c.gStates_c, .slice c.gInputs_a c.gInputs_n c.gInputs_c, .int .i64 c.gStart, .slice c.gMoves_a c.gMoves_n c.gMoves_c], .int .i64 ms, .int .i64 ma] hb51 (by kernel_rfl) (choose_any c ms ma _ (chtQ_sep hc S44) hv (by omega)) ?_
   rintro _ w27 ⟨ca1, cc1, cl1, cb1, hq1, rfl, T1⟩
   have S45 : Sep w (rowOf encI ca1 cc1 3 1 cl1 :: box b13 [.slice none 0 0, .bool false] 83 :: box b9 [.int .i64 ms, .int .i64 r] 81 :: box b7 [.int .i64 ms, .int .i64 ma] 37 :: quC mdE (subA qa qc 1 2) (qc - 1) 37 2 (q.drop 1) :: mapC twoV Value.bool b5 (updF G (ms, ma) true) :: mapC twoV chV b4 H :: mapC (Value.int .i64) Value.bool b3 F2 :: mapC (Value.int .i64) Value.bool b2 (updF F1 ms true) :: box b1 [.slice c.gStates_a c.gStates_n c.gStates_c, .slice c.gInputs_a c.gInputs_n c.gInputs_c, .int .i64 c.gStart, .slice c.gMoves_a c.gMoves_n c.gMoves_c] 25 :: tlC outs) w27 := S44.trans T1
   clear T1
   refine J.stBox S45 1 83 0 (.agg #[.slice ca1 cl1.length cc1, .bool cb1]) [.slice ca1 cl1.length cc1, .bool cb1] (rowOf encI ca1 cc1 3 1 cl1 :: box b13 [.slice ca1 cl1.length cc1, .bool cb1] 83 :: box b9 [.int .i64 ms, .int .i64 r] 81 :: box b7 [.int .i64 ms, .int .i64 ma] 37 :: quC mdE (subA qa qc 1 2) (qc - 1) 37 2 (q.drop 1) :: mapC twoV Value.bool b5 (updF G (ms, ma) true) :: mapC twoV chV b4 H :: mapC (Value.int .i64) Value.bool b3 F2 :: mapC (Value.int .i64) Value.bool b2 (updF F1 ms true) :: box b1 [.slice c.gStates_a c.gStates_n c.gStates_c, .slice c.gInputs_a c.gInputs_n c.gInputs_c, .int .i64 c.gStart, .slice c.gMoves_a c.gMoves_n c.gMoves_c] 25 :: tlC outs) (by kernel_rfl) rfl (by kernel_rfl) (by kernel_rfl) rfl ?_
   intro w28 S46
   refine J.run 3 K42_54 [(80, .map (some b4)), (12, .pointer (some ⟨b13, 0, none⟩)), (11, .pointer (some ⟨b9, 0, none⟩)), (6, .slice (subA qa qc 1 2) ((q.drop 1).length) (qc - 1)), (7, .pointer (some ⟨b7, 0, none⟩)), (5, .map (some b5)), (4, .map (some b4)), (3, .map (some b3)), (2, .map (some b2)), (1, .pointer (some ⟨b1, 0, none⟩))] w28 (by kernel_rfl) ?_
   refine J.ok (OK.ldBox S46 2 81 81 0 (.agg #[.int .i64 ms, .int .i64 r]) (by kernel_rfl) rfl (by kernel_rfl)) ?_
   refine J.ok (OK.ldBox S46 1 82 83 0 (.agg #[.slice ca1 cl1.length cc1, .bool cb1]) (by kernel_rfl) rfl (by kernel_rfl)) ?_
   refine J.mapUpdate S46 6 78 81 83 (.agg #[.slice none 0 0, .bool false]) (ms, r) (⟨ca1, cl1.length, cc1, cl1, cb1⟩ : Cho) rfl (by kernel_rfl) (by kernel_rfl) key78 ?_
   intro w29 S47
   replace S47 : Sep w (rowOf encI ca1 cc1 3 1 cl1 :: box b13 [.slice ca1 cl1.length cc1, .bool cb1] 83 :: box b9 [.int .i64 ms, .int .i64 r] 81 :: box b7 [.int .i64 ms, .int .i64 ma] 37 :: quC mdE (subA qa qc 1 2) (qc - 1) 37 2 (q.drop 1) :: mapC twoV Value.bool b5 (updF G (ms, ma) true) :: mapC twoV chV b4 (updF H (ms, r) (⟨ca1, cl1.length, cc1, cl1, cb1⟩ : Cho)) :: mapC (Value.int .i64) Value.bool b3 F2 :: mapC (Value.int .i64) Value.bool b2 (updF F1 ms true) :: box b1 [.slice c.gStates_a c.gStates_n c.gStates_c, .slice c.gInputs_a c.gInputs_n c.gInputs_c, .int .i64 c.gStart, .slice c.gMoves_a c.gMoves_n c.gMoves_c] 25 :: tlC outs) w29 := S47
   have S48 : Sep w (box b13 [.slice ca1 cl1.length cc1, .bool cb1] 83 :: box b9 [.int .i64 ms, .int .i64 r] 81 :: box b7 [.int .i64 ms, .int .i64 ma] 37 :: quC mdE (subA qa qc 1 2) (qc - 1) 37 2 (q.drop 1) :: mapC twoV Value.bool b5 (updF G (ms, ma) true) :: mapC twoV chV b4 (updF H (ms, r) (⟨ca1, cl1.length, cc1, cl1, cb1⟩ : Cho)) :: mapC (Value.int .i64) Value.bool b3 F2 :: mapC (Value.int .i64) Value.bool b2 (updF F1 ms true) :: box b1 [.slice c.gStates_a c.gStates_n c.gStates_c, .slice c.gInputs_a c.gInputs_n c.gInputs_c, .int .i64 c.gStart, .slice c.gMoves_a c.gMoves_n c.gMoves_c] 25 :: tlC (outs ++ [(⟨ca1, cl1.length, cc1, cl1, cb1⟩ : Cho)])) w29 := by rw [tlC_snoc]; exact S47.back 9
   have hK2 := kinv_new hK hrr (x := (⟨ca1, cl1.length, cc1, cl1, cb1⟩ : Cho)) rfl hq1
   have hko : (⟨ca1, cl1.length, cc1, cl1, cb1⟩ : Cho) ∈ outs ++ [(⟨ca1, cl1.length, cc1, cl1, cb1⟩ : Cho)] := List.mem_append.2 (.inr (List.mem_singleton.2 rfl))
   refine J.run 5 K42_55 [(83, .pointer (some ⟨b13, 0, none⟩)), (12, .pointer (some ⟨b13, 0, none⟩)), (6, .slice (subA qa qc 1 2) ((q.drop 1).length) (qc - 1)), (7, .pointer (some ⟨b7, 0, none⟩)), (5, .map (some b5)), (4, .map (some b4)), (3, .map (some b3)), (2, .map (some b2)), (1, .pointer (some ⟨b1, 0, none⟩))] w29 (by kernel_rfl) ?_
   refine J.ok (OK.ldBox S48 0 84 26 0 (.slice ca1 cl1.length cc1) (by kernel_rfl) rfl (by kernel_rfl)) ?_
   have hcl := hq1.2.2
   refine J.run 5 K42_56 [(86, .int .i64 0), (85, .int .i64 (cl1.length : Int)), (84, .slice ca1 cl1.length cc1), (12, .pointer (some ⟨b13, 0, none⟩)), (6, .slice (subA qa qc 1 2) ((q.drop 1).length) (qc - 1)), (7, .pointer (some ⟨b7, 0, none⟩)), (5, .map (some b5)), (4, .map (some b4)), (3, .map (some b3)), (2, .map (some b2)), (1, .pointer (some ⟨b1, 0, none⟩))] w29 (by kernel_rfl) ?_
   have L42_4 : ∀ (mm_ : Nat) (qa2 : Option Addr) (qc2 : Nat) (q2 : List Md) (F3 : Int → Option Bool) (j : Int) (w30 : World), (0 ≤ j) → (j ≤ (cl1.length : Int)) → (LF cl1 (j).toNat F2 F3) → (q2 = QF c (q.drop 1) cl1 (j).toNat) → Sep w (box b13 [.slice ca1 cl1.length cc1, .bool cb1] 83 :: box b9 [.int .i64 ms, .int .i64 r] 81 :: box b7 [.int .i64 ms, .int .i64 ma] 37 :: quC mdE qa2 qc2 37 2 q2 :: mapC twoV Value.bool b5 (updF G (ms, ma) true) :: mapC twoV chV b4 (updF H (ms, r) (⟨ca1, cl1.length, cc1, cl1, cb1⟩ : Cho)) :: mapC (Value.int .i64) Value.bool b3 F3 :: mapC (Value.int .i64) Value.bool b2 (updF F1 ms true) :: box b1 [.slice c.gStates_a c.gStates_n c.gStates_c, .slice c.gInputs_a c.gInputs_n c.gInputs_c, .int .i64 c.gStart, .slice c.gMoves_a c.gMoves_n c.gMoves_c] 25 :: tlC (outs ++ [(⟨ca1, cl1.length, cc1, cl1, cb1⟩ : Cho)])) w30 → ((cl1.length : Int) - j).toNat = mm_ → J Try.prog 42 121 R K42_56 [(86, .int .i64 j), (85, .int .i64 (cl1.length : Int)), (84, .slice ca1 cl1.length cc1), (12, .pointer (some ⟨b13, 0, none⟩)), (6, .slice qa2 q2.length qc2), (7, .pointer (some ⟨b7, 0, none⟩)), (5, .map (some b5)), (4, .map (some b4)), (3, .map (some b3)), (2, .map (some b2)), (1, .pointer (some ⟨b1, 0, none⟩))] w30 := by
    intro mm4
    induction mm4 using Nat.strongRecOn with
    | _ mm4 ih4 =>
    intro qa2 qc2 q2 F3 j w30 j0 j1 hF3 hq2 S49 hm4
    have hql := qf_len hq2
    have hji : j < (cl1.length : Int) → _ := fun h => ch_at hq1 j0 h
    refine J.run 5 K42_57 [(87, .bool (decide (j < (cl1.length : Int)))), (86, .int .i64 j), (85, .int .i64 (cl1.length : Int)), (84, .slice ca1 cl1.length cc1), (12, .pointer (some ⟨b13, 0, none⟩)), (6, .slice qa2 q2.length qc2), (7, .pointer (some ⟨b7, 0, none⟩)), (5, .map (some b5)), (4, .map (some b4)), (3, .map (some b3)), (2, .map (some b2)), (1, .pointer (some ⟨b1, 0, none⟩))] w30 (by kernel_rfl) ?_
    by_cases fk10 : j < (cl1.length : Int)
    ·skip
     refine J.head (.bool true) (congrArg Value.bool (decide_eq_true fk10)) ?_
     refine J.run 6 K42_58 [(86, .int .i64 j), (85, .int .i64 (cl1.length : Int)), (84, .slice ca1 cl1.length cc1), (12, .pointer (some ⟨b13, 0, none⟩)), (6, .slice qa2 q2.length qc2), (7, .pointer (some ⟨b7, 0, none⟩)), (5, .map (some b5)), (4, .map (some b4)), (3, .map (some b3)), (2, .map (some b2)), (1, .pointer (some ⟨b1, 0, none⟩))] w30 (by kernel_rfl) ?_
     obtain ⟨p5, hp5, hc5⟩ := (show Ints w30 ca1 cl1.length cl1 from cells_tl S49 (fun c_ h_ => (show c_ ∈ [box b13 [.slice ca1 cl1.length cc1, .bool cb1] 83, box b9 [.int .i64 ms, .int .i64 r] 81, box b7 [.int .i64 ms, .int .i64 ma] 37, quC mdE qa2 qc2 37 2 q2, mapC twoV Value.bool b5 (updF G (ms, ma) true), mapC twoV chV b4 (updF H (ms, r) (⟨ca1, cl1.length, cc1, cl1, cb1⟩ : Cho)), mapC (Value.int .i64) Value.bool b3 F3, mapC (Value.int .i64) Value.bool b2 (updF F1 ms true), box b1 [.slice c.gStates_a c.gStates_n c.gStates_c, .slice c.gInputs_a c.gInputs_n c.gInputs_c, .int .i64 c.gStart, .slice c.gMoves_a c.gMoves_n c.gMoves_c] 25] ++ tlC (outs ++ [(⟨ca1, cl1.length, cc1, cl1, cb1⟩ : Cho)]) from List.mem_append.2 (.inr h_))) hko).at 0 (j).toNat (by omega)
     refine J.ok (OK.index 88 26 1 ca1 p5 cl1.length (j).toNat j (p5.add (j).toNat) (by kernel_rfl) (by kernel_rfl) hp5 (by omega) (by omega) (by rw [Nat.mul_one])) ?_
     refine J.ok (OK.ldCell 89 3 (p5.add (j).toNat) (.int .i64 (cl1.getD (j).toNat 0)) (by kernel_rfl) (by kernel_rfl) hc5) ?_
     refine J.run 6 K42_59 [(91, .int .i64 (cl1.getD (j).toNat 0)), (90, .map (some b3)), (15, .int .i64 (cl1.getD (j).toNat 0)), (86, .int .i64 j), (85, .int .i64 (cl1.length : Int)), (84, .slice ca1 cl1.length cc1), (12, .pointer (some ⟨b13, 0, none⟩)), (6, .slice qa2 q2.length qc2), (7, .pointer (some ⟨b7, 0, none⟩)), (5, .map (some b5)), (4, .map (some b4)), (3, .map (some b3)), (2, .map (some b2)), (1, .pointer (some ⟨b1, 0, none⟩))] w30 (by kernel_rfl) ?_
     refine J.mapUpdate S49 6 68 3 4 (.bool false) (cl1.getD (j).toNat 0) true rfl (by kernel_rfl) (by kernel_rfl) key68 ?_
     intro w31 S50
     replace S50 : Sep w (box b13 [.slice ca1 cl1.length cc1, .bool cb1] 83 :: box b9 [.int .i64 ms, .int .i64 r] 81 :: box b7 [.int .i64 ms, .int .i64 ma] 37 :: quC mdE qa2 qc2 37 2 q2 :: mapC twoV Value.bool b5 (updF G (ms, ma) true) :: mapC twoV chV b4 (updF H (ms, r) (⟨ca1, cl1.length, cc1, cl1, cb1⟩ : Cho)) :: mapC (Value.int .i64) Value.bool b3 (updF F3 (cl1.getD (j).toNat 0) true) :: mapC (Value.int .i64) Value.bool b2 (updF F1 ms true) :: box b1 [.slice c.gStates_a c.gStates_n c.gStates_c, .slice c.gInputs_a c.gInputs_n c.gInputs_c, .int .i64 c.gStart, .slice c.gMoves_a c.gMoves_n c.gMoves_c] 25 :: tlC (outs ++ [(⟨ca1, cl1.length, cc1, cl1, cb1⟩ : Cho)])) w31 := S50
     refine J.run 4 K42_60 [(93, .pointer (some ⟨b1, 3, none⟩)), (92, .slice qa2 q2.length qc2), (15, .int .i64 (cl1.getD (j).toNat 0)), (86, .int .i64 j), (85, .int .i64 (cl1.length : Int)), (84, .slice ca1 cl1.length cc1), (12, .pointer (some ⟨b13, 0, none⟩)), (7, .pointer (some ⟨b7, 0, none⟩)), (5, .map (some b5)), (4, .map (some b4)), (3, .map (some b3)), (2, .map (some b2)), (1, .pointer (some ⟨b1, 0, none⟩))] w31 (by kernel_rfl) ?_
     refine J.ok (OK.ldBox S50 8 94 23 3 (.slice c.gMoves_a c.gMoves_n c.gMoves_c) (by kernel_rfl) rfl (by kernel_rfl)) ?_
     refine J.run 1 K42_61 [(95, .int .i64 (cl1.getD (j).toNat 0)), (94, .slice c.gMoves_a c.gMoves_n c.gMoves_c), (92, .slice qa2 q2.length qc2), (86, .int .i64 j), (85, .int .i64 (cl1.length : Int)), (84, .slice ca1 cl1.length cc1), (12, .pointer (some ⟨b13, 0, none⟩)), (7, .pointer (some ⟨b7, 0, none⟩)), (5, .map (some b5)), (4, .map (some b4)), (3, .map (some b3)), (2, .map (some b2)), (1, .pointer (some ⟨b1, 0, none⟩))] w31 (by kernel_rfl) ?_
     obtain ⟨p6, hp6, hc6⟩ := q9.at (⟨0, 0, 0, 0, 0⟩ : Mv) (cl1.getD (j).toNat 0).toNat (by omega)
     have hel3 := getD_Q q10 (⟨0, 0, 0, 0, 0⟩ : Mv) (n := (cl1.getD (j).toNat 0).toNat) (by have := q9.len_eq; omega)
     obtain ⟨q21, q22, q23, q24, q25, _⟩ := id hel3
     refine J.ok (OK.index 96 23 5 c.gMoves_a p6 c.gMoves_n (cl1.getD (j).toNat 0).toNat (cl1.getD (j).toNat 0) (p6.add ((cl1.getD (j).toNat 0).toNat * 5)) (by kernel_rfl) (by kernel_rfl) hp6 (by omega) (by omega) rfl) ?_
     refine J.run 1 K42_62 [(97, .pointer (some ((p6.add ((cl1.getD (j).toNat 0).toNat * 5)).add 1))), (92, .slice qa2 q2.length qc2), (86, .int .i64 j), (85, .int .i64 (cl1.length : Int)), (84, .slice ca1 cl1.length cc1), (12, .pointer (some ⟨b13, 0, none⟩)), (7, .pointer (some ⟨b7, 0, none⟩)), (5, .map (some b5)), (4, .map (some b4)), (3, .map (some b3)), (2, .map (some b2)), (1, .pointer (some ⟨b1, 0, none⟩))] w31 (by kernel_rfl) ?_
     refine J.ok (OK.ldCell 98 3 ((p6.add ((cl1.getD (j).toNat 0).toNat * 5)).add 1) (.int .i64 ((c.gMoves_l.getD (cl1.getD (j).toNat 0).toNat (⟨0, 0, 0, 0, 0⟩ : Mv)).gTo)) (by kernel_rfl) (by kernel_rfl) (S50.cell (hc6 1 _ rfl))) ?_
     refine J.run 1 K42_63 [(99, .agg #[.int .i64 ((c.gMoves_l.getD (cl1.getD (j).toNat 0).toNat (⟨0, 0, 0, 0, 0⟩ : Mv)).gTo), .int .i64 0]), (92, .slice qa2 q2.length qc2), (86, .int .i64 j), (85, .int .i64 (cl1.length : Int)), (84, .slice ca1 cl1.length cc1), (12, .pointer (some ⟨b13, 0, none⟩)), (7, .pointer (some ⟨b7, 0, none⟩)), (5, .map (some b5)), (4, .map (some b4)), (3, .map (some b3)), (2, .map (some b2)), (1, .pointer (some ⟨b1, 0, none⟩))] w31 (by kernel_rfl) ?_
     refine J.newSlice S50 100 1 [.int .i64 ((c.gMoves_l.getD (cl1.getD (j).toNat 0).toNat (⟨0, 0, 0, 0, 0⟩ : Mv)).gTo), .int .i64 0] 37 (by kernel_rfl) ?_
     intro b14 w32 S51
     refine J.appendQ mdE S51 4 q2 (⟨(c.gMoves_l.getD (cl1.getD (j).toNat 0).toNat (⟨0, 0, 0, 0, 0⟩ : Mv)).gTo, 0⟩ : Md) 101 80 (.agg #[.int .i64 0, .int .i64 0]) 16 ⟨b14, 0, none⟩ 1 rfl (by kernel_rfl) (by kernel_rfl) (by kernel_rfl) (by kernel_rfl) (by decide) (fun _ => rfl) (box_cells (S51.nth 0 rfl)) (by kernel_rfl) (⟨by omega, by omega⟩) ?_
     intro qa3 qc3 w33 S52
     replace S52 : Sep w (box b14 [.int .i64 ((c.gMoves_l.getD (cl1.getD (j).toNat 0).toNat (⟨0, 0, 0, 0, 0⟩ : Mv)).gTo), .int .i64 0] 37 :: box b13 [.slice ca1 cl1.length cc1, .bool cb1] 83 :: box b9 [.int .i64 ms, .int .i64 r] 81 :: box b7 [.int .i64 ms, .int .i64 ma] 37 :: quC mdE qa3 qc3 37 2 (q2 ++ [(⟨(c.gMoves_l.getD (cl1.getD (j).toNat 0).toNat (⟨0, 0, 0, 0, 0⟩ : Mv)).gTo, 0⟩ : Md)]) :: mapC twoV Value.bool b5 (updF G (ms, ma) true) :: mapC twoV chV b4 (updF H (ms, r) (⟨ca1, cl1.length, cc1, cl1, cb1⟩ : Cho)) :: mapC (Value.int .i64) Value.bool b3 (updF F3 (cl1.getD (j).toNat 0) true) :: mapC (Value.int .i64) Value.bool b2 (updF F1 ms true) :: box b1 [.slice c.gStates_a c.gStates_n c.gStates_c, .slice c.gInputs_a c.gInputs_n c.gInputs_c, .int .i64 c.gStart, .slice c.gMoves_a c.gMoves_n c.gMoves_c] 25 :: tlC (outs ++ [(⟨ca1, cl1.length, cc1, cl1, cb1⟩ : Cho)])) w33 := S52
     have S53 : Sep w (box b13 [.slice ca1 cl1.length cc1, .bool cb1] 83 :: box b9 [.int .i64 ms, .int .i64 r] 81 :: box b7 [.int .i64 ms, .int .i64 ma] 37 :: quC mdE qa3 qc3 37 2 (q2 ++ [(⟨(c.gMoves_l.getD (cl1.getD (j).toNat 0).toNat (⟨0, 0, 0, 0, 0⟩ : Mv)).gTo, 0⟩ : Md)]) :: mapC twoV Value.bool b5 (updF G (ms, ma) true) :: mapC twoV chV b4 (updF H (ms, r) (⟨ca1, cl1.length, cc1, cl1, cb1⟩ : Cho)) :: mapC (Value.int .i64) Value.bool b3 (updF F3 (cl1.getD (j).toNat 0) true) :: mapC (Value.int .i64) Value.bool b2 (updF F1 ms true) :: box b1 [.slice c.gStates_a c.gStates_n c.gStates_c, .slice c.gInputs_a c.gInputs_n c.gInputs_c, .int .i64 c.gStart, .slice c.gMoves_a c.gMoves_n c.gMoves_c] 25 :: tlC (outs ++ [(⟨ca1, cl1.length, cc1, cl1, cb1⟩ : Cho)])) w33 := S52.erase 0
     clear S52
     refine J.run 5 K42_64 [(102, .int .i64 (IntKind.wrap .i64 (j + 1))), (6, .slice qa3 ((q2 ++ [(⟨(c.gMoves_l.getD (cl1.getD (j).toNat 0).toNat (⟨0, 0, 0, 0, 0⟩ : Mv)).gTo, 0⟩ : Md)]).length) qc3), (85, .int .i64 (cl1.length : Int)), (84, .slice ca1 cl1.length cc1), (12, .pointer (some ⟨b13, 0, none⟩)), (7, .pointer (some ⟨b7, 0, none⟩)), (5, .map (some b5)), (4, .map (some b4)), (3, .map (some b3)), (2, .map (some b2)), (1, .pointer (some ⟨b1, 0, none⟩))] w33 (by kernel_rfl) ?_
     refine J.head (.int .i64 (j + 1)) (congrArg (Value.int .i64) (IntWalk.i64_in _ (by omega))) ?_
     refine J.run 3 K42_56 [(86, .int .i64 (j + 1)), (6, .slice qa3 ((q2 ++ [(⟨(c.gMoves_l.getD (cl1.getD (j).toNat 0).toNat (⟨0, 0, 0, 0, 0⟩ : Mv)).gTo, 0⟩ : Md)]).length) qc3), (85, .int .i64 (cl1.length : Int)), (84, .slice ca1 cl1.length cc1), (12, .pointer (some ⟨b13, 0, none⟩)), (7, .pointer (some ⟨b7, 0, none⟩)), (5, .map (some b5)), (4, .map (some b4)), (3, .map (some b3)), (2, .map (some b2)), (1, .pointer (some ⟨b1, 0, none⟩))] w33 (by kernel_rfl) ?_
     refine J.run 0 K42_56 [(86, .int .i64 (j + 1)), (85, .int .i64 (cl1.length : Int)), (84, .slice ca1 cl1.length cc1), (12, .pointer (some ⟨b13, 0, none⟩)), (6, .slice qa3 ((q2 ++ [(⟨(c.gMoves_l.getD (cl1.getD (j).toNat 0).toNat (⟨0, 0, 0, 0, 0⟩ : Mv)).gTo, 0⟩ : Md)]).length) qc3), (7, .pointer (some ⟨b7, 0, none⟩)), (5, .map (some b5)), (4, .map (some b4)), (3, .map (some b3)), (2, .map (some b2)), (1, .pointer (some ⟨b1, 0, none⟩))] w33 (by kernel_rfl) ?_
     exact ih4 _ (show ((cl1.length : Int) - (j + 1)).toNat < mm4 from by omega) qa3 qc3 (q2 ++ [(⟨(c.gMoves_l.getD (cl1.getD (j).toNat 0).toNat (⟨0, 0, 0, 0, 0⟩ : Mv)).gTo, 0⟩ : Md)]) (updF F3 (cl1.getD (j).toNat 0) true) (j + 1) w33 (by omega) (by omega) (lf_step hF3 j0 (by omega)) (qf_step hq2 j0 (by omega) rfl) S53 rfl
    refine J.head (.bool false) (congrArg Value.bool (decide_eq_false fk10)) ?_
    refine J.run 5 K42_65 [(103, .pointer (some ⟨b13, 1, none⟩)), (6, .slice qa2 q2.length qc2), (7, .pointer (some ⟨b7, 0, none⟩)), (5, .map (some b5)), (4, .map (some b4)), (3, .map (some b3)), (2, .map (some b2)), (1, .pointer (some ⟨b1, 0, none⟩))] w30 (by kernel_rfl) ?_
    refine J.ok (OK.ldBox S49 0 104 4 1 (.bool cb1) (by kernel_rfl) rfl (by kernel_rfl)) ?_
    refine J.run 1 K42_66 [(105, .bool cb1), (6, .slice qa2 q2.length qc2), (7, .pointer (some ⟨b7, 0, none⟩)), (5, .map (some b5)), (4, .map (some b4)), (3, .map (some b3)), (2, .map (some b2)), (1, .pointer (some ⟨b1, 0, none⟩))] w30 (by kernel_rfl) ?_
    rcases Bool.eq_false_or_eq_true cb1 with fk11 | fk11
    rotate_left
    ·skip
     refine J.head (.bool false) (congrArg Value.bool fk11) ?_
     refine J.run 9 K42_6 [(6, .slice qa2 q2.length qc2), (5, .map (some b5)), (4, .map (some b4)), (3, .map (some b3)), (2, .map (some b2)), (1, .pointer (some ⟨b1, 0, none⟩))] w30 (by kernel_rfl) ?_
     have S63 : Sep w (box b13 [.slice ca1 cl1.length cc1, .bool cb1] 83 :: box b9 [.int .i64 ms, .int .i64 r] 81 :: quC mdE qa2 qc2 37 2 q2 :: mapC twoV Value.bool b5 (updF G (ms, ma) true) :: mapC twoV chV b4 (updF H (ms, r) (⟨ca1, cl1.length, cc1, cl1, cb1⟩ : Cho)) :: mapC (Value.int .i64) Value.bool b3 F3 :: mapC (Value.int .i64) Value.bool b2 (updF F1 ms true) :: box b1 [.slice c.gStates_a c.gStates_n c.gStates_c, .slice c.gInputs_a c.gInputs_n c.gInputs_c, .int .i64 c.gStart, .slice c.gMoves_a c.gMoves_n c.gMoves_c] 25 :: tlC (outs ++ [(⟨ca1, cl1.length, cc1, cl1, cb1⟩ : Cho)])) w30 := S49.erase 2
     clear S49
     have S64 : Sep w (box b13 [.slice ca1 cl1.length cc1, .bool cb1] 83 :: quC mdE qa2 qc2 37 2 q2 :: mapC twoV Value.bool b5 (updF G (ms, ma) true) :: mapC twoV chV b4 (updF H (ms, r) (⟨ca1, cl1.length, cc1, cl1, cb1⟩ : Cho)) :: mapC (Value.int .i64) Value.bool b3 F3 :: mapC (Value.int .i64) Value.bool b2 (updF F1 ms true) :: box b1 [.slice c.gStates_a c.gStates_n c.gStates_c, .slice c.gInputs_a c.gInputs_n c.gInputs_c, .int .i64 c.gStart, .slice c.gMoves_a c.gMoves_n c.gMoves_c] 25 :: tlC (outs ++ [(⟨ca1, cl1.length, cc1, cl1, cb1⟩ : Cho)])) w30 := S63.erase 1
     clear S63
     have S65 : Sep w (quC mdE qa2 qc2 37 2 q2 :: mapC twoV Value.bool b5 (updF G (ms, ma) true) :: mapC twoV chV b4 (updF H (ms, r) (⟨ca1, cl1.length, cc1, cl1, cb1⟩ : Cho)) :: mapC (Value.int .i64) Value.bool b3 F3 :: mapC (Value.int .i64) Value.bool b2 (updF F1 ms true) :: box b1 [.slice c.gStates_a c.gStates_n c.gStates_c, .slice c.gInputs_a c.gInputs_n c.gInputs_c, .int .i64 c.gStart, .slice c.gMoves_a c.gMoves_n c.gMoves_c] 25 :: tlC (outs ++ [(⟨ca1, cl1.length, cc1, cl1, cb1⟩ : Cho)])) w30 := S64.erase 0
     clear S64
     refine J.run 0 K42_6 [(6, .slice qa2 q2.length qc2), (5, .map (some b5)), (4, .map (some b4)), (3, .map (some b3)), (2, .map (some b2)), (1, .pointer (some ⟨b1, 0, none⟩))] w30 (by kernel_rfl) ?_
     exact ih1 _ (show unG (updF G (ms, ma) true) * 1100 + (q2).length < mm1 from (by first | omega | (rw [List.length_append, List.length_singleton]; omega))) qa2 qc2 q2 (updF F1 ms true) F3 (updF G (ms, ma) true) (updF H (ms, r) (⟨ca1, cl1.length, cc1, cl1, cb1⟩ : Cho)) (outs ++ [(⟨ca1, cl1.length, cc1, cl1, cb1⟩ : Cho)]) w30 ((by first | omega | (rw [List.length_append, List.length_singleton]; omega))) (sinv_new hI (by omega) hme hq1 (lf_end hF3 (by omega)) (qf_no hq2 (by omega) (fun h_ => by rw [fk11] at h_; cases h_.1))) (hK2) S65 rfl
    refine J.head (.bool true) (congrArg Value.bool fk11) ?_
    refine J.run 1 K42_67 [(106, .pointer (some ⟨b7, 1, none⟩)), (105, .bool true), (6, .slice qa2 q2.length qc2), (7, .pointer (some ⟨b7, 0, none⟩)), (5, .map (some b5)), (4, .map (some b4)), (3, .map (some b3)), (2, .map (some b2)), (1, .pointer (some ⟨b1, 0, none⟩))] w30 (by kernel_rfl) ?_
    refine J.ok (OK.ldBox S49 2 107 3 1 (.int .i64 ma) (by kernel_rfl) rfl (by kernel_rfl)) ?_
    refine J.run 3 K42_68 [(109, .bool (decide (ma < 1000))), (6, .slice qa2 q2.length qc2), (7, .pointer (some ⟨b7, 0, none⟩)), (5, .map (some b5)), (4, .map (some b4)), (3, .map (some b3)), (2, .map (some b2)), (1, .pointer (some ⟨b1, 0, none⟩))] w30 (by kernel_rfl) ?_
    by_cases fk12 : ma < 1000
    rotate_left
    ·skip
     refine J.head (.bool false) (congrArg Value.bool (decide_eq_false fk12)) ?_
     refine J.run 4 K42_6 [(6, .slice qa2 q2.length qc2), (5, .map (some b5)), (4, .map (some b4)), (3, .map (some b3)), (2, .map (some b2)), (1, .pointer (some ⟨b1, 0, none⟩))] w30 (by kernel_rfl) ?_
     have S60 : Sep w (box b13 [.slice ca1 cl1.length cc1, .bool cb1] 83 :: box b9 [.int .i64 ms, .int .i64 r] 81 :: quC mdE qa2 qc2 37 2 q2 :: mapC twoV Value.bool b5 (updF G (ms, ma) true) :: mapC twoV chV b4 (updF H (ms, r) (⟨ca1, cl1.length, cc1, cl1, cb1⟩ : Cho)) :: mapC (Value.int .i64) Value.bool b3 F3 :: mapC (Value.int .i64) Value.bool b2 (updF F1 ms true) :: box b1 [.slice c.gStates_a c.gStates_n c.gStates_c, .slice c.gInputs_a c.gInputs_n c.gInputs_c, .int .i64 c.gStart, .slice c.gMoves_a c.gMoves_n c.gMoves_c] 25 :: tlC (outs ++ [(⟨ca1, cl1.length, cc1, cl1, cb1⟩ : Cho)])) w30 := S49.erase 2
     clear S49
     have S61 : Sep w (box b13 [.slice ca1 cl1.length cc1, .bool cb1] 83 :: quC mdE qa2 qc2 37 2 q2 :: mapC twoV Value.bool b5 (updF G (ms, ma) true) :: mapC twoV chV b4 (updF H (ms, r) (⟨ca1, cl1.length, cc1, cl1, cb1⟩ : Cho)) :: mapC (Value.int .i64) Value.bool b3 F3 :: mapC (Value.int .i64) Value.bool b2 (updF F1 ms true) :: box b1 [.slice c.gStates_a c.gStates_n c.gStates_c, .slice c.gInputs_a c.gInputs_n c.gInputs_c, .int .i64 c.gStart, .slice c.gMoves_a c.gMoves_n c.gMoves_c] 25 :: tlC (outs ++ [(⟨ca1, cl1.length, cc1, cl1, cb1⟩ : Cho)])) w30 := S60.erase 1
     clear S60
     have S62 : Sep w (quC mdE qa2 qc2 37 2 q2 :: mapC twoV Value.bool b5 (updF G (ms, ma) true) :: mapC twoV chV b4 (updF H (ms, r) (⟨ca1, cl1.length, cc1, cl1, cb1⟩ : Cho)) :: mapC (Value.int .i64) Value.bool b3 F3 :: mapC (Value.int .i64) Value.bool b2 (updF F1 ms true) :: box b1 [.slice c.gStates_a c.gStates_n c.gStates_c, .slice c.gInputs_a c.gInputs_n c.gInputs_c, .int .i64 c.gStart, .slice c.gMoves_a c.gMoves_n c.gMoves_c] 25 :: tlC (outs ++ [(⟨ca1, cl1.length, cc1, cl1, cb1⟩ : Cho)])) w30 := S61.erase 0
     clear S61
     refine J.run 0 K42_6 [(6, .slice qa2 q2.length qc2), (5, .map (some b5)), (4, .map (some b4)), (3, .map (some b3)), (2, .map (some b2)), (1, .pointer (some ⟨b1, 0, none⟩))] w30 (by kernel_rfl) ?_
     exact ih1 _ (show unG (updF G (ms, ma) true) * 1100 + (q2).length < mm1 from (by first | omega | (rw [List.length_append, List.length_singleton]; omega))) qa2 qc2 q2 (updF F1 ms true) F3 (updF G (ms, ma) true) (updF H (ms, r) (⟨ca1, cl1.length, cc1, cl1, cb1⟩ : Cho)) (outs ++ [(⟨ca1, cl1.length, cc1, cl1, cb1⟩ : Cho)]) w30 ((by first | omega | (rw [List.length_append, List.length_singleton]; omega))) (sinv_new hI (by omega) hme hq1 (lf_end hF3 (by omega)) (qf_no hq2 (by omega) (fun h_ => absurd h_.2 (by omega)))) (hK2) S62 rfl
    refine J.head (.bool true) (congrArg Value.bool (decide_eq_true fk12)) ?_
    refine J.run 4 K42_69 [(111, .pointer (some ⟨b7, 0, none⟩)), (110, .slice qa2 q2.length qc2), (7, .pointer (some ⟨b7, 0, none⟩)), (5, .map (some b5)), (4, .map (some b4)), (3, .map (some b3)), (2, .map (some b2)), (1, .pointer (some ⟨b1, 0, none⟩))] w30 (by kernel_rfl) ?_
    refine J.ok (OK.ldBox S49 2 112 3 0 (.int .i64 ms) (by kernel_rfl) rfl (by kernel_rfl)) ?_
    refine J.run 1 K42_70 [(113, .pointer (some ⟨b7, 1, none⟩)), (112, .int .i64 ms), (110, .slice qa2 q2.length qc2), (5, .map (some b5)), (4, .map (some b4)), (3, .map (some b3)), (2, .map (some b2)), (1, .pointer (some ⟨b1, 0, none⟩))] w30 (by kernel_rfl) ?_
    refine J.ok (OK.ldBox S49 2 114 3 1 (.int .i64 ma) (by kernel_rfl) rfl (by kernel_rfl)) ?_
    refine J.run 1 K42_71 [(115, .int .i64 (IntKind.wrap .i64 (ma + 1))), (112, .int .i64 ms), (110, .slice qa2 q2.length qc2), (5, .map (some b5)), (4, .map (some b4)), (3, .map (some b3)), (2, .map (some b2)), (1, .pointer (some ⟨b1, 0, none⟩))] w30 (by kernel_rfl) ?_
    refine J.head (.int .i64 (ma + 1)) (congrArg (Value.int .i64) (IntWalk.i64_in _ (by omega))) ?_
    refine J.run 1 K42_72 [(116, .agg #[.int .i64 ms, .int .i64 (ma + 1)]), (110, .slice qa2 q2.length qc2), (5, .map (some b5)), (4, .map (some b4)), (3, .map (some b3)), (2, .map (some b2)), (1, .pointer (some ⟨b1, 0, none⟩))] w30 (by kernel_rfl) ?_
    refine J.newSlice S49 117 1 [.int .i64 ms, .int .i64 (ma + 1)] 37 (by kernel_rfl) ?_
    intro b15 w34 S54
    refine J.appendQ mdE S54 4 q2 (⟨ms, ma + 1⟩ : Md) 118 80 (.agg #[.int .i64 0, .int .i64 0]) 16 ⟨b15, 0, none⟩ 1 rfl (by kernel_rfl) (by kernel_rfl) (by kernel_rfl) (by kernel_rfl) (by decide) (fun _ => rfl) (box_cells (S54.nth 0 rfl)) (by kernel_rfl) (⟨by omega, by omega⟩) ?_
    intro qa4 qc4 w35 S55
    replace S55 : Sep w (box b15 [.int .i64 ms, .int .i64 (ma + 1)] 37 :: box b13 [.slice ca1 cl1.length cc1, .bool cb1] 83 :: box b9 [.int .i64 ms, .int .i64 r] 81 :: box b7 [.int .i64 ms, .int .i64 ma] 37 :: quC mdE qa4 qc4 37 2 (q2 ++ [(⟨ms, ma + 1⟩ : Md)]) :: mapC twoV Value.bool b5 (updF G (ms, ma) true) :: mapC twoV chV b4 (updF H (ms, r) (⟨ca1, cl1.length, cc1, cl1, cb1⟩ : Cho)) :: mapC (Value.int .i64) Value.bool b3 F3 :: mapC (Value.int .i64) Value.bool b2 (updF F1 ms true) :: box b1 [.slice c.gStates_a c.gStates_n c.gStates_c, .slice c.gInputs_a c.gInputs_n c.gInputs_c, .int .i64 c.gStart, .slice c.gMoves_a c.gMoves_n c.gMoves_c] 25 :: tlC (outs ++ [(⟨ca1, cl1.length, cc1, cl1, cb1⟩ : Cho)])) w35 := S55
    have S56 : Sep w (box b13 [.slice ca1 cl1.length cc1, .bool cb1] 83 :: box b9 [.int .i64 ms, .int .i64 r] 81 :: box b7 [.int .i64 ms, .int .i64 ma] 37 :: quC mdE qa4 qc4 37 2 (q2 ++ [(⟨ms, ma + 1⟩ : Md)]) :: mapC twoV Value.bool b5 (updF G (ms, ma) true) :: mapC twoV chV b4 (updF H (ms, r) (⟨ca1, cl1.length, cc1, cl1, cb1⟩ : Cho)) :: mapC (Value.int .i64) Value.bool b3 F3 :: mapC (Value.int .i64) Value.bool b2 (updF F1 ms true) :: box b1 [.slice c.gStates_a c.gStates_n c.gStates_c, .slice c.gInputs_a c.gInputs_n c.gInputs_c, .int .i64 c.gStart, .slice c.gMoves_a c.gMoves_n c.gMoves_c] 25 :: tlC (outs ++ [(⟨ca1, cl1.length, cc1, cl1, cb1⟩ : Cho)])) w35 := S55.erase 0
    clear S55
    refine J.run 4 K42_6 [(6, .slice qa4 ((q2 ++ [(⟨ms, ma + 1⟩ : Md)]).length) qc4), (5, .map (some b5)), (4, .map (some b4)), (3, .map (some b3)), (2, .map (some b2)), (1, .pointer (some ⟨b1, 0, none⟩))] w35 (by kernel_rfl) ?_
    have S57 : Sep w (box b13 [.slice ca1 cl1.length cc1, .bool cb1] 83 :: box b9 [.int .i64 ms, .int .i64 r] 81 :: quC mdE qa4 qc4 37 2 (q2 ++ [(⟨ms, ma + 1⟩ : Md)]) :: mapC twoV Value.bool b5 (updF G (ms, ma) true) :: mapC twoV chV b4 (updF H (ms, r) (⟨ca1, cl1.length, cc1, cl1, cb1⟩ : Cho)) :: mapC (Value.int .i64) Value.bool b3 F3 :: mapC (Value.int .i64) Value.bool b2 (updF F1 ms true) :: box b1 [.slice c.gStates_a c.gStates_n c.gStates_c, .slice c.gInputs_a c.gInputs_n c.gInputs_c, .int .i64 c.gStart, .slice c.gMoves_a c.gMoves_n c.gMoves_c] 25 :: tlC (outs ++ [(⟨ca1, cl1.length, cc1, cl1, cb1⟩ : Cho)])) w35 := S56.erase 2
    clear S56
    have S58 : Sep w (box b13 [.slice ca1 cl1.length cc1, .bool cb1] 83 :: quC mdE qa4 qc4 37 2 (q2 ++ [(⟨ms, ma + 1⟩ : Md)]) :: mapC twoV Value.bool b5 (updF G (ms, ma) true) :: mapC twoV chV b4 (updF H (ms, r) (⟨ca1, cl1.length, cc1, cl1, cb1⟩ : Cho)) :: mapC (Value.int .i64) Value.bool b3 F3 :: mapC (Value.int .i64) Value.bool b2 (updF F1 ms true) :: box b1 [.slice c.gStates_a c.gStates_n c.gStates_c, .slice c.gInputs_a c.gInputs_n c.gInputs_c, .int .i64 c.gStart, .slice c.gMoves_a c.gMoves_n c.gMoves_c] 25 :: tlC (outs ++ [(⟨ca1, cl1.length, cc1, cl1, cb1⟩ : Cho)])) w35 := S57.erase 1
    clear S57
    have S59 : Sep w (quC mdE qa4 qc4 37 2 (q2 ++ [(⟨ms, ma + 1⟩ : Md)]) :: mapC twoV Value.bool b5 (updF G (ms, ma) true) :: mapC twoV chV b4 (updF H (ms, r) (⟨ca1, cl1.length, cc1, cl1, cb1⟩ : Cho)) :: mapC (Value.int .i64) Value.bool b3 F3 :: mapC (Value.int .i64) Value.bool b2 (updF F1 ms true) :: box b1 [.slice c.gStates_a c.gStates_n c.gStates_c, .slice c.gInputs_a c.gInputs_n c.gInputs_c, .int .i64 c.gStart, .slice c.gMoves_a c.gMoves_n c.gMoves_c] 25 :: tlC (outs ++ [(⟨ca1, cl1.length, cc1, cl1, cb1⟩ : Cho)])) w35 := S58.erase 0
    clear S58
    refine J.run 0 K42_6 [(6, .slice qa4 ((q2 ++ [(⟨ms, ma + 1⟩ : Md)]).length) qc4), (5, .map (some b5)), (4, .map (some b4)), (3, .map (some b3)), (2, .map (some b2)), (1, .pointer (some ⟨b1, 0, none⟩))] w35 (by kernel_rfl) ?_
    exact ih1 _ (show unG (updF G (ms, ma) true) * 1100 + ((q2 ++ [(⟨ms, ma + 1⟩ : Md)])).length < mm1 from (by first | omega | (rw [List.length_append, List.length_singleton]; omega))) qa4 qc4 (q2 ++ [(⟨ms, ma + 1⟩ : Md)]) (updF F1 ms true) F3 (updF G (ms, ma) true) (updF H (ms, r) (⟨ca1, cl1.length, cc1, cl1, cb1⟩ : Cho)) (outs ++ [(⟨ca1, cl1.length, cc1, cl1, cb1⟩ : Cho)]) w35 ((by first | omega | (rw [List.length_append, List.length_singleton]; omega))) (sinv_new hI (by omega) hme hq1 (lf_end hF3 (by omega)) (qf_yes hq2 (by omega) fk11 (by omega))) (hK2) S59 rfl
   exact L42_4 _ (subA qa qc 1 2) (qc - 1) (q.drop 1) F2 0 w29 (by omega) (by omega) (lf_start _ _) ((by unfold QF; simp)) S48 rfl
  exact L42_2 _ 0 0 w11 (by omega) (by omega) (by omega) (ripe_zero c ms ma) S15 rfl
 exact L42_1 _ (some ⟨b6, 0, none⟩) ([(⟨c.gStart, 0⟩ : Md)].length) ([(⟨c.gStart, 0⟩ : Md)]) (fun _ => none) (fun _ => none) (fun _ => none) (fun _ => none) ([]) w6 ((by have := unG_le (fun _ => none); show _ + 1 ≤ _; omega)) (sinv_start) (kinv_start c) S8 rfl

end
end Go.Proofs.Ytbbpgidmadlgmaa

