/- Walks of functions of this seat, printed by a program over the engine. Conditions: as each theorem says. -/
import Derived.Test.YthhdaackhfffiaaDoorZlD7
namespace Go.Proofs.YthhdaackhfffiaaDoor
open Go.Eng Go.RowKit
set_option linter.unusedSimpArgs false
set_option linter.unusedVariables false
abbrev kvD8_1 : List Value := [iv 0, iv 0, iv 0, iv 0, iv 0]
theorem hb42 : HasBody Tryd.prog 42 := fun _ _ => by kernel_rfl
noncomputable def K42_0 : List Item := adv 2 [] (bodyOf Tryd.f42)
noncomputable def K42_1 : List Item := adv 5 [] (popK K42_0)
noncomputable def K42_2 : List Item := adv 2 [] (popK K42_1)
noncomputable def K42_3 : List Item := adv 2 [] K42_2
set_option maxRecDepth 20000 in
set_option maxHeartbeats 20000000 in
theorem dcmp_any (d : Dr) (t : Int) (w : World) (hd : 0 ≤ d.gAt ∧ d.gAt ≤ 1099511627776 ∧ 0 ≤ t ∧ t ≤ 1099511627776) : Ret Tryd.prog 42 #[.agg #[iv d.gAt, iv d.gPedal, iv d.gBrake, iv d.gGear, iv d.gLoad], iv t] w (fun v w' => v = iv (d.gAt - t) ∧ Sep w [] w') := by
 have S0 := Sep.refl w
 refine Ret.named fun R hR => ?_
 refine Ret.of_J (N := 9) [(0, .agg #[iv d.gAt, iv d.gPedal, iv d.gBrake, iv d.gGear, iv d.gLoad]), (1, iv t)] Tryd.func42 rfl rfl (Nat.le_of_ble_eq_true (by kernel_rfl)) (by kernel_rfl) ?_
 refine J.run 2 K42_0 [(0, .agg #[iv d.gAt, iv d.gPedal, iv d.gBrake, iv d.gGear, iv d.gLoad]), (1, iv t)] w (by kernel_rfl) ?_
 refine J.new S0 2 [iv d.gAt, iv d.gPedal, iv d.gBrake, iv d.gGear, iv d.gLoad] 27 (by kernel_rfl) ?_
 intro b1 w1 S1
 refine J.run 5 K42_1 [(5, .pointer (some ⟨b1, 0, none⟩)), (1, iv t)] w1 (by kernel_rfl) ?_
 refine J.ok (OK.ldBox S1 0 6 3 0 (iv d.gAt) (by kernel_rfl) rfl (by kernel_rfl)) ?_
 refine J.run 2 K42_2 [(8, iv (IntKind.wrap .i64 (d.gAt - t)))] w1 (by kernel_rfl) ?_
 refine J.head (iv (d.gAt - t)) (congrArg (Value.int .i64) (IntWalk.i64_in _ (by omega))) ?_
 refine J.run 2 K42_3 [(4, iv (d.gAt - t))] w1 (by kernel_rfl) ?_
 refine J.ret Tryd.f42 [iv (d.gAt - t)] Tryd.func42 ⟨by kernel_rfl, trivial⟩ ?_
 refine hR _ _ ?_
 exact ⟨rfl, S1.nil⟩

theorem hb41 : HasBody Tryd.prog 41 := fun _ _ => by kernel_rfl
noncomputable def K41_0 : List Item := adv 20 [] (bodyOf Tryd.f41)
noncomputable def K41_1 : List Item := adv 7 [] K41_0
noncomputable def K41_2 : List Item := adv 8 [true] K41_1
noncomputable def K41_3 : List Item := adv 1 [] K41_2
noncomputable def K41_4 : List Item := adv 1 [] K41_3
noncomputable def K41_5 : List Item := adv 1 [] K41_4
noncomputable def K41_6 : List Item := adv 7 [] K41_5
noncomputable def K41_7 : List Item := adv 1 [] (popK (popK K41_6))
noncomputable def K41_8 : List Item := adv 2 [] (popK K41_7)
noncomputable def K41_9 : List Item := adv 4 [true] K41_8
noncomputable def K41_10 : List Item := adv 9 [false] K41_1
noncomputable def K41_11 : List Item := adv 3 [] K41_10
noncomputable def K41_12 : List Item := adv 1 [] (popK (popK K41_11))
noncomputable def K41_13 : List Item := adv 5 [] (popK K41_12)
noncomputable def K41_14 : List Item := adv 12 [] K41_10
set_option maxRecDepth 20000 in
set_option maxHeartbeats 20000000 in
theorem bsearch_any (a : Option Addr) (n c : Nat) (l : List Dr) (t : Int) (w : World) (hl : Recs drE 5 w a n l) (hv : validD l = true) (ht : 0 ≤ t ∧ t ≤ 1099511627776) : Ret Tryd.prog 41 #[.slice a n c, iv t, .func (.func 42) #[] #[]] w (fun v w' => v = .tuple #[iv (posD l t), .bool (foundD l t)] ∧ Sep w [] w') := by
 have S0 := Sep.refl w
 refine Ret.named fun R hR => ?_
 refine Ret.of_J (N := 49) [(0, .slice a n c), (1, iv t), (2, .func (.func 42) #[] #[])] Tryd.func41 rfl rfl (Nat.le_of_ble_eq_true (by kernel_rfl)) (by kernel_rfl) ?_
 have hll := hl.len_eq
 have hvl := (valid_iff.1 hv).1
 refine J.run 20 K41_0 [(10, iv (n : Int)), (9, iv 0), (8, iv (n : Int)), (0, .slice a n c), (1, iv t), (2, .func (.func 42) #[] #[])] w (by kernel_rfl) ?_
 have L41_1 : ∀ (mm_ : Nat) (i : Int) (j : Int) (w1 : World), (0 ≤ i ∧ i ≤ j ∧ j ≤ (n : Int)) → (∀ k : Nat, (k : Int) < i → (l.getD k dr0).gAt < t) → (j < (n : Int) → t ≤ (l.getD (j).toNat dr0).gAt) → Sep w [] w1 → (j - i).toNat = mm_ → J Tryd.prog 41 49 R K41_0 [(10, iv j), (9, iv i), (8, iv (n : Int)), (0, .slice a n c), (1, iv t), (2, .func (.func 42) #[] #[])] w1 := by
  intro mm1
  induction mm1 using Nat.strongRecOn with
  | _ mm1 ih1 =>
  intro i j w1 hb hi hj S1 hm1
  refine J.run 7 K41_1 [(17, .bool (decide (i < j))), (10, iv j), (9, iv i), (8, iv (n : Int)), (0, .slice a n c), (1, iv t), (2, .func (.func 42) #[] #[])] w1 (by kernel_rfl) ?_
  by_cases fk1 : i < j
  ·skip
   refine J.head (.bool true) (congrArg Value.bool (decide_eq_true fk1)) ?_
   refine J.run 8 K41_2 [(20, iv (IntKind.wrap .i64 (i + j))), (10, iv j), (9, iv i), (8, iv (n : Int)), (0, .slice a n c), (1, iv t), (2, .func (.func 42) #[] #[])] w1 (by kernel_rfl) ?_
   refine J.head (iv (i + j)) (congrArg (Value.int .i64) (IntWalk.i64_in _ (by omega))) ?_
   refine J.run 1 K41_3 [(21, .int .u64 (IntKind.wrap .u64 (i + j))), (10, iv j), (9, iv i), (8, iv (n : Int)), (0, .slice a n c), (1, iv t), (2, .func (.func 42) #[] #[])] w1 (by kernel_rfl) ?_
   refine J.head (.int .u64 (i + j)) (congrArg (Value.int .u64) (IntWalk.u64_in _ (by omega))) ?_
   refine J.run 1 K41_4 [(22, .int .u64 (Int.fdiv (i + j) (2 ^ 1))), (10, iv j), (9, iv i), (8, iv (n : Int)), (0, .slice a n c), (1, iv t), (2, .func (.func 42) #[] #[])] w1 (by kernel_rfl) ?_
   refine J.head (.int .u64 ((i + j) / 2)) (congrArg (Value.int .u64) (shr_lit _ _ (by decide))) ?_
   refine J.run 1 K41_5 [(23, iv (IntKind.wrap .i64 ((i + j) / 2))), (10, iv j), (9, iv i), (8, iv (n : Int)), (0, .slice a n c), (1, iv t), (2, .func (.func 42) #[] #[])] w1 (by kernel_rfl) ?_
   refine J.head (iv ((i + j) / 2)) (congrArg (Value.int .i64) (IntWalk.i64_in _ (by omega))) ?_
   obtain ⟨mid, hmid⟩ : ∃ x : Int, x = (i + j) / 2 := ⟨_, rfl⟩
   refine J.head (iv mid) (congrArg (Value.int .i64) hmid.symm) ?_
   have hgm := val_at hv (j := mid.toNat) (by omega)
   refine J.run 7 K41_6 [(26, iv mid), (25, .slice a n c), (24, .func (.func 42) #[] #[]), (11, iv mid), (10, iv j), (9, iv i), (8, iv (n : Int)), (0, .slice a n c), (1, iv t), (2, .func (.func 42) #[] #[])] w1 (by kernel_rfl) ?_
   obtain ⟨p1, hp1, hc1⟩ := hl.at dr0 (mid).toNat (by omega)
   refine J.ok (OK.index 27 22 5 a p1 n (mid).toNat mid (p1.add ((mid).toNat * 5)) (by kernel_rfl) (by kernel_rfl) hp1 (by omega) (by omega) rfl) ?_
   refine J.ok (OK.ldCells 28 27 (p1.add ((mid).toNat * 5)) [iv ((l.getD (mid).toNat dr0).gAt), iv ((l.getD (mid).toNat dr0).gPedal), iv ((l.getD (mid).toNat dr0).gBrake), iv ((l.getD (mid).toNat dr0).gGear), iv ((l.getD (mid).toNat dr0).gLoad)] (by kernel_rfl) (by kernel_rfl) (by kernel_rfl) (fun j_ v_ hj_ => S1.cell (hc1 j_ v_ hj_))) ?_
   refine J.run 1 K41_7 [(29, iv t), (28, .agg #[iv ((l.getD (mid).toNat dr0).gAt), iv ((l.getD (mid).toNat dr0).gPedal), iv ((l.getD (mid).toNat dr0).gBrake), iv ((l.getD (mid).toNat dr0).gGear), iv ((l.getD (mid).toNat dr0).gLoad)]), (24, .func (.func 42) #[] #[]), (11, iv mid), (10, iv j), (9, iv i), (8, iv (n : Int)), (0, .slice a n c), (1, iv t), (2, .func (.func 42) #[] #[])] w1 (by kernel_rfl) ?_
   refine J.callF 30 42 #[.agg #[iv ((l.getD (mid).toNat dr0).gAt), iv ((l.getD (mid).toNat dr0).gPedal), iv ((l.getD (mid).toNat dr0).gBrake), iv ((l.getD (mid).toNat dr0).gGear), iv ((l.getD (mid).toNat dr0).gLoad)], iv t] hb42 (by kernel_rfl) (dcmp_any (l.getD (mid).toNat dr0) t _ (by omega)) ?_
   rintro _ w2 ⟨rfl, T1⟩
   have S2 : Sep w [] w2 := S1.trans T1
   clear T1 S1
   refine J.run 2 K41_8 [(31, .bool (decide ((((l.getD (mid).toNat dr0)).gAt - t) < 0))), (11, iv mid), (10, iv j), (9, iv i), (8, iv (n : Int)), (0, .slice a n c), (1, iv t), (2, .func (.func 42) #[] #[])] w2 (by kernel_rfl) ?_
   by_cases fk2 : (((l.getD (mid).toNat dr0)).gAt - t) < 0
   ·skip
    refine J.head (.bool true) (congrArg Value.bool (decide_eq_true fk2)) ?_
    refine J.run 4 K41_9 [(33, iv (IntKind.wrap .i64 (mid + 1))), (10, iv j), (8, iv (n : Int)), (0, .slice a n c), (1, iv t), (2, .func (.func 42) #[] #[])] w2 (by kernel_rfl) ?_
    refine J.head (iv (mid + 1)) (congrArg (Value.int .i64) (IntWalk.i64_in _ (by omega))) ?_
    refine J.run 4 K41_0 [(9, iv (mid + 1)), (10, iv j), (8, iv (n : Int)), (0, .slice a n c), (1, iv t), (2, .func (.func 42) #[] #[])] w2 (by kernel_rfl) ?_
    refine J.run 0 K41_0 [(10, iv j), (9, iv (mid + 1)), (8, iv (n : Int)), (0, .slice a n c), (1, iv t), (2, .func (.func 42) #[] #[])] w2 (by kernel_rfl) ?_
    exact ih1 _ (show (j - (mid + 1)).toNat < mm1 from by omega) (mid + 1) j w2 (by omega) (bs_low hv (by omega) (by omega)) (hj) S2 rfl
   ·skip
    refine J.head (.bool false) (congrArg Value.bool (decide_eq_false fk2)) ?_
    refine J.run 7 K41_0 [(10, iv mid), (9, iv i), (8, iv (n : Int)), (0, .slice a n c), (1, iv t), (2, .func (.func 42) #[] #[])] w2 (by kernel_rfl) ?_
    refine J.run 0 K41_0 [(10, iv mid), (9, iv i), (8, iv (n : Int)), (0, .slice a n c), (1, iv t), (2, .func (.func 42) #[] #[])] w2 (by kernel_rfl) ?_
    exact ih1 _ (show (mid - i).toNat < mm1 from by omega) i mid w2 (by omega) (hi) (fun _ => by omega) S2 rfl
  ·skip
   refine J.head (.bool false) (congrArg Value.bool (decide_eq_false fk1)) ?_
   refine J.run 9 K41_10 [(39, .bool (decide (i < (n : Int)))), (35, iv i), (9, iv i), (0, .slice a n c), (1, iv t), (2, .func (.func 42) #[] #[])] w1 (by kernel_rfl) ?_
   by_cases fk3 : i < (n : Int)
   ·skip
    refine J.head (.bool true) (congrArg Value.bool (decide_eq_true fk3)) ?_
    have hgi := val_at hv (j := i.toNat) (by omega)
    refine J.run 3 K41_11 [(42, iv i), (41, .slice a n c), (40, .func (.func 42) #[] #[]), (39, .bool true), (35, iv i), (1, iv t)] w1 (by kernel_rfl) ?_
    obtain ⟨p2, hp2, hc2⟩ := hl.at dr0 (i).toNat (by omega)
    refine J.ok (OK.index 43 22 5 a p2 n (i).toNat i (p2.add ((i).toNat * 5)) (by kernel_rfl) (by kernel_rfl) hp2 (by omega) (by omega) rfl) ?_
    refine J.ok (OK.ldCells 44 27 (p2.add ((i).toNat * 5)) [iv ((l.getD (i).toNat dr0).gAt), iv ((l.getD (i).toNat dr0).gPedal), iv ((l.getD (i).toNat dr0).gBrake), iv ((l.getD (i).toNat dr0).gGear), iv ((l.getD (i).toNat dr0).gLoad)] (by kernel_rfl) (by kernel_rfl) (by kernel_rfl) (fun j_ v_ hj_ => S1.cell (hc2 j_ v_ hj_))) ?_
    refine J.run 1 K41_12 [(45, iv t), (44, .agg #[iv ((l.getD (i).toNat dr0).gAt), iv ((l.getD (i).toNat dr0).gPedal), iv ((l.getD (i).toNat dr0).gBrake), iv ((l.getD (i).toNat dr0).gGear), iv ((l.getD (i).toNat dr0).gLoad)]), (40, .func (.func 42) #[] #[]), (39, .bool true), (35, iv i)] w1 (by kernel_rfl) ?_
    refine J.callF 46 42 #[.agg #[iv ((l.getD (i).toNat dr0).gAt), iv ((l.getD (i).toNat dr0).gPedal), iv ((l.getD (i).toNat dr0).gBrake), iv ((l.getD (i).toNat dr0).gGear), iv ((l.getD (i).toNat dr0).gLoad)], iv t] hb42 (by kernel_rfl) (dcmp_any (l.getD (i).toNat dr0) t _ (by omega)) ?_
    rintro _ w3 ⟨rfl, T2⟩
    have S3 : Sep w [] w3 := S1.trans T2
    clear T2 S1
    refine J.run 5 K41_13 [(7, .bool ((((l.getD (i).toNat dr0)).gAt - t) == 0)), (6, iv i)] w3 (by kernel_rfl) ?_
    refine J.ret Tryd.f41 [iv i, .bool ((((l.getD (i).toNat dr0)).gAt - t) == 0)] Tryd.func41 ⟨by kernel_rfl, by kernel_rfl, trivial⟩ ?_
    refine hR _ _ ?_
    have hp_ : posD l t = i := bs_end (by omega) (by omega) hi (fun h_ => hj (by omega))
    exact ⟨by rw [hp_, found_yes hp_ (by omega)]; rfl, S3.nil⟩
   ·skip
    refine J.head (.bool false) (congrArg Value.bool (decide_eq_false fk3)) ?_
    refine J.run 12 K41_14 [(7, .bool false), (6, iv i)] w1 (by kernel_rfl) ?_
    refine J.ret Tryd.f41 [iv i, .bool false] Tryd.func41 ⟨by kernel_rfl, by kernel_rfl, trivial⟩ ?_
    refine hR _ _ ?_
    have hp_ : posD l t = i := bs_end (by omega) (by omega) hi (fun h_ => hj (by omega))
    exact ⟨by rw [hp_, found_no hp_ (by omega)]; rfl, S1.nil⟩
 exact L41_1 _ 0 (n : Int) w (by omega) (by intro k hk; omega) (by intro h; omega) S0 rfl

theorem hb25 : HasBody Tryd.prog 25 := fun _ _ => by kernel_rfl
noncomputable def K25_0 : List Item := adv 9 [] (bodyOf Tryd.f25)
noncomputable def K25_1 : List Item := adv 2 [] (popK K25_0)
noncomputable def K25_2 : List Item := adv 8 [false] K25_1
noncomputable def K25_3 : List Item := adv 10 [true] K25_2
noncomputable def K25_4 : List Item := adv 4 [] K25_2
noncomputable def K25_5 : List Item := adv 6 [true] K25_4
noncomputable def K25_6 : List Item := adv 6 [false] K25_4
noncomputable def K25_7 : List Item := adv 12 [] (popK K25_6)
noncomputable def K25_8 : List Item := adv 8 [false] K25_7
noncomputable def K25_9 : List Item := adv 4 [true] K25_7
noncomputable def K25_10 : List Item := adv 8 [] K25_9
noncomputable def K25_11 : List Item := adv 6 [true] K25_1
set_option maxRecDepth 20000 in
set_option maxHeartbeats 20000000 in
theorem find_any (a : Option Addr) (n c : Nat) (l : List Dr) (t : Int) (w : World) (hl : Recs drE 5 w a n l) : Ret Tryd.prog 25 #[.slice a n c, iv t] w (fun v w' => v = .tuple #[iv (fndI l t), iv (fndE l t)] ∧ Sep w [] w') := by
 have S0 := Sep.refl w
 refine Ret.named fun R hR => ?_
 refine Ret.of_J (N := 28) [(0, .slice a n c), (1, iv t)] Tryd.func25 rfl rfl (Nat.le_of_ble_eq_true (by kernel_rfl)) (by kernel_rfl) ?_
 have hll := hl.len_eq
 have hpf := pos_facts l t
 refine J.run 9 K25_0 [(8, .slice a n c), (0, .slice a n c), (1, iv t)] w (by kernel_rfl) ?_
 refine J.callF 9 9 #[.slice a n c] hb9 (by kernel_rfl) (valid_any a n c l _ (hl.sep S0)) ?_
 rintro _ w1 ⟨rfl, T1⟩
 have S1 : Sep w [] w1 := S0.trans T1
 clear T1
 refine J.run 2 K25_1 [(10, .bool (!(validD l))), (0, .slice a n c), (1, iv t)] w1 (by kernel_rfl) ?_
 rcases Bool.eq_false_or_eq_true (validD l) with fk1 | fk1
 ·skip
  refine J.head (.bool false) (congrArg Value.bool (by rw [fk1]; rfl)) ?_
  have hv := fk1
  have hvl := (valid_iff.1 hv).1
  refine J.run 8 K25_2 [(13, .bool (decide (t < 0))), (0, .slice a n c), (1, iv t)] w1 (by kernel_rfl) ?_
  by_cases fk2 : t < 0
  ·skip
   refine J.head (.bool true) (congrArg Value.bool (decide_eq_true fk2)) ?_
   refine J.run 10 K25_3 [(5, iv 2), (4, iv 0)] w1 (by kernel_rfl) ?_
   refine J.ret Tryd.f25 [iv 0, iv 2] Tryd.func25 ⟨by kernel_rfl, by kernel_rfl, trivial⟩ ?_
   refine hR _ _ ?_
   exact ⟨by rw [(fnd_out fk1 (by omega)).1, (fnd_out fk1 (by omega)).2]; rfl, S1.nil⟩
  ·skip
   refine J.head (.bool false) (congrArg Value.bool (decide_eq_false fk2)) ?_
   refine J.run 4 K25_4 [(16, .bool (decide (t > 1099511627776))), (0, .slice a n c), (1, iv t)] w1 (by kernel_rfl) ?_
   by_cases fk3 : t > 1099511627776
   ·skip
    refine J.head (.bool true) (congrArg Value.bool (decide_eq_true fk3)) ?_
    refine J.run 6 K25_5 [(5, iv 2), (4, iv 0)] w1 (by kernel_rfl) ?_
    refine J.ret Tryd.f25 [iv 0, iv 2] Tryd.func25 ⟨by kernel_rfl, by kernel_rfl, trivial⟩ ?_
    refine hR _ _ ?_
    exact ⟨by rw [(fnd_out fk1 (by omega)).1, (fnd_out fk1 (by omega)).2]; rfl, S1.nil⟩
   ·skip
    refine J.head (.bool false) (congrArg Value.bool (decide_eq_false fk3)) ?_
    refine J.run 6 K25_6 [(19, iv t), (18, .slice a n c)] w1 (by kernel_rfl) ?_
    refine J.callF 20 41 #[.slice a n c, iv t, .func (.func 42) #[] #[]] hb41 (by kernel_rfl) (bsearch_any a n c l t _ (hl.sep S1) hv (by omega)) ?_
    rintro _ w2 ⟨rfl, T2⟩
    have S2 : Sep w [] w2 := S1.trans T2
    clear T2 S1
    refine J.run 12 K25_7 [(24, .bool (!(foundD l t))), (6, iv (posD l t))] w2 (by kernel_rfl) ?_
    rcases Bool.eq_false_or_eq_true (foundD l t) with fk4 | fk4
    ·skip
     refine J.head (.bool false) (congrArg Value.bool (by rw [fk4]; rfl)) ?_
     refine J.run 8 K25_8 [(5, iv 0), (4, iv (posD l t))] w2 (by kernel_rfl) ?_
     refine J.ret Tryd.f25 [iv (posD l t), iv 0] Tryd.func25 ⟨by kernel_rfl, by kernel_rfl, trivial⟩ ?_
     refine hR _ _ ?_
     exact ⟨by rw [(fnd_in fk1 (by omega)).1, (fnd_in fk1 (by omega)).2, ← (find_last fk1 (t := t) (by omega)).1, fk4]; rfl, S2.nil⟩
    ·skip
     refine J.head (.bool true) (congrArg Value.bool (by rw [fk4]; rfl)) ?_
     refine J.run 4 K25_9 [(26, iv (IntKind.wrap .i64 ((posD l t) - 1)))] w2 (by kernel_rfl) ?_
     refine J.head (iv ((posD l t) - 1)) (congrArg (Value.int .i64) (IntWalk.i64_in _ (by omega))) ?_
     refine J.run 8 K25_10 [(5, iv 0), (4, iv ((posD l t) - 1))] w2 (by kernel_rfl) ?_
     refine J.ret Tryd.f25 [iv ((posD l t) - 1), iv 0] Tryd.func25 ⟨by kernel_rfl, by kernel_rfl, trivial⟩ ?_
     refine hR _ _ ?_
     exact ⟨by rw [(fnd_in fk1 (by omega)).1, (fnd_in fk1 (by omega)).2, ← (find_last fk1 (t := t) (by omega)).1, fk4]; rfl, S2.nil⟩
 ·skip
  refine J.head (.bool true) (congrArg Value.bool (by rw [fk1]; rfl)) ?_
  refine J.run 6 K25_11 [(5, iv 1), (4, iv 0)] w1 (by kernel_rfl) ?_
  refine J.ret Tryd.f25 [iv 0, iv 1] Tryd.func25 ⟨by kernel_rfl, by kernel_rfl, trivial⟩ ?_
  refine hR _ _ ?_
  exact ⟨by rw [(fnd_bad fk1).1, (fnd_bad fk1).2]; rfl, S1.nil⟩

/-! between two orders -/
def btw (p q x n : Int) : Int := p + (q - p) * x / n
theorem btw_prod {p q x : Int} (hp : -2500 ≤ q - p ∧ q - p ≤ 2500) (hx : 0 ≤ x ∧ x ≤ 1099511627776) : -2748779069440000 ≤ (q - p) * x ∧ (q - p) * x ≤ 2748779069440000 := by
  have h1 : ((q - p) * x).natAbs ≤ 2500 * 1099511627776 := by rw [Int.natAbs_mul]; exact Nat.mul_le_mul (by omega) (by omega)
  omega
theorem btw_quot {a n : Int} (hn : 1 ≤ n) (ha : -2748779069440000 ≤ a ∧ a ≤ 2748779069440000) : -2748779069440000 ≤ a / n ∧ a / n ≤ 2748779069440000 := by
  constructor
  · rw [Int.le_ediv_iff_mul_le (by omega)]
    have : -2748779069440000 * n ≤ -2748779069440000 * 1 := Int.mul_le_mul_of_nonpos_left (by omega) (by omega)
    omega
  · have h1 : a / n ≤ 2748779069440000 / n := Int.ediv_le_ediv (by omega) ha.2
    have h2 : (2748779069440000 : Int) / n ≤ 2748779069440000 := Int.ediv_le_self _ (by omega)
    omega
def atD (l : List Dr) (t : Int) : Dr := if fndE l t = 0 then ⟨t, (l.getD (fndI l t).toNat dr0).gPedal, (l.getD (fndI l t).toNat dr0).gBrake, (l.getD (fndI l t).toNat dr0).gGear, (l.getD (fndI l t).toNat dr0).gLoad⟩ else ⟨0, 0, 0, 0, 0⟩
theorem at_yes {l : List Dr} {t : Int} (h : fndE l t = 0) : atD l t = ⟨t, (l.getD (fndI l t).toNat dr0).gPedal, (l.getD (fndI l t).toNat dr0).gBrake, (l.getD (fndI l t).toNat dr0).gGear, (l.getD (fndI l t).toNat dr0).gLoad⟩ := if_pos h
theorem at_no {l : List Dr} {t : Int} (h : ¬ fndE l t = 0) : atD l t = ⟨0, 0, 0, 0, 0⟩ := if_neg h
def rampOf (a b : Dr) (t : Int) : Dr := ⟨t, btw a.gPedal b.gPedal (t - a.gAt) (b.gAt - a.gAt), btw a.gBrake b.gBrake (t - a.gAt) (b.gAt - a.gAt), a.gGear, btw a.gLoad b.gLoad (t - a.gAt) (b.gAt - a.gAt)⟩
def rampD (l : List Dr) (t : Int) : Dr := if fndE l t = 0 then (if fndI l t = (l.length : Int) - 1 then atD l t else rampOf (l.getD (fndI l t).toNat dr0) (l.getD (fndI l t + 1).toNat dr0) t) else ⟨0, 0, 0, 0, 0⟩
theorem ramp_no {l : List Dr} {t : Int} (h : ¬ fndE l t = 0) : rampD l t = ⟨0, 0, 0, 0, 0⟩ := if_neg h
theorem ramp_end {l : List Dr} {t : Int} (h : fndE l t = 0) (h2 : fndI l t = (l.length : Int) - 1) : rampD l t = atD l t := by unfold rampD; rw [if_pos h, if_pos h2]
theorem ramp_in {l : List Dr} {t : Int} (h : fndE l t = 0) (h2 : ¬ fndI l t = (l.length : Int) - 1) : rampD l t = rampOf (l.getD (fndI l t).toNat dr0) (l.getD (fndI l t + 1).toNat dr0) t := by unfold rampD; rw [if_pos h, if_neg h2]
/-- of the order in force and the next one -/
theorem last_facts {l : List Dr} (hv : validD l = true) {t : Int} (ht : 0 ≤ t) : (0 ≤ lastD l t ∧ lastD l t < (l.length : Int)) ∧ (l.getD (lastD l t).toNat dr0).gAt ≤ t ∧ (lastD l t + 1 < (l.length : Int) → t < (l.getD (lastD l t + 1).toNat dr0).gAt) := by
  obtain ⟨f1, f2, f3⟩ := find_last hv ht
  obtain ⟨⟨p1, p2⟩, p3, p4⟩ := pos_facts l t
  refine ⟨⟨f2, f3⟩, ?_⟩
  by_cases hp : posD l t < (l.length : Int)
  · rw [found_yes rfl hp] at f1
    have h4 := p4 hp
    by_cases he : (l.getD (posD l t).toNat dr0).gAt - t = 0
    · rw [beq_iff_eq.2 he, if_pos rfl] at f1
      rw [← f1]
      refine ⟨by omega, fun hn => ?_⟩
      have := ascD hv (posD l t + 1).toNat (posD l t).toNat (by omega) (by omega); omega
    · rw [beq_eq_false_iff_ne.2 he, if_neg (by decide)] at f1
      rw [← f1]
      have h3 := p3 (posD l t - 1).toNat (by omega)
      exact ⟨by omega, fun _ => by rw [show posD l t - 1 + 1 = posD l t by omega]; omega⟩
  · rw [found_no rfl hp, if_neg (by decide)] at f1
    rw [← f1]
    have h3 := p3 (posD l t - 1).toNat (by omega)
    exact ⟨by omega, fun hn => by omega⟩

theorem hb10 : HasBody Tryd.prog 10 := fun _ _ => by kernel_rfl
noncomputable def K10_0 : List Item := adv 2 [] (bodyOf Tryd.f10)
noncomputable def K10_1 : List Item := adv 6 [] (popK K10_0)
noncomputable def K10_2 : List Item := adv 12 [] (popK K10_1)
noncomputable def K10_3 : List Item := adv 6 [false] K10_2
noncomputable def K10_4 : List Item := adv 5 [] (popK (popK (popK (popK K10_3))))
noncomputable def K10_5 : List Item := adv 3 [] (popK K10_4)
noncomputable def K10_6 : List Item := adv 2 [] (popK (popK K10_5))
noncomputable def K10_7 : List Item := adv 5 [true] K10_2
noncomputable def K10_8 : List Item := adv 2 [] (popK K10_7)
set_option maxRecDepth 20000 in
set_option maxHeartbeats 20000000 in
theorem at_any (a : Option Addr) (n c : Nat) (l : List Dr) (t : Int) (w : World) (hl : Recs drE 5 w a n l) : Ret Tryd.prog 10 #[.slice a n c, iv t] w (fun v w' => v = .tuple #[.agg #[iv (atD l t).gAt, iv (atD l t).gPedal, iv (atD l t).gBrake, iv (atD l t).gGear, iv (atD l t).gLoad], iv (fndE l t)] ∧ Sep w [] w') := by
 have S0 := Sep.refl w
 refine Ret.named fun R hR => ?_
 refine Ret.of_J (N := 26) [(0, .slice a n c), (1, iv t)] Tryd.func10 rfl rfl (Nat.le_of_ble_eq_true (by kernel_rfl)) (by kernel_rfl) ?_
 have hll := hl.len_eq
 refine J.run 2 K10_0 [(0, .slice a n c), (1, iv t)] w (by kernel_rfl) ?_
 refine J.new S0 4 kvD8_1 27 (by kernel_rfl) ?_
 intro b1 w1 S1
 refine J.run 6 K10_1 [(11, iv t), (10, .slice a n c), (4, .pointer (some ⟨b1, 0, none⟩)), (0, .slice a n c), (1, iv t)] w1 (by kernel_rfl) ?_
 refine J.callF 12 25 #[.slice a n c, iv t] hb25 (by kernel_rfl) (find_any a n c l t _ (hl.sep S1)) ?_
 rintro _ w2 ⟨rfl, T1⟩
 have S2 : Sep w [box b1 kvD8_1 27] w2 := S1.trans T1
 clear T1 S1
 refine J.run 12 K10_2 [(16, .bool ((fndE l t) != 0)), (7, iv (fndE l t)), (6, iv (fndI l t)), (4, .pointer (some ⟨b1, 0, none⟩)), (0, .slice a n c), (1, iv t)] w2 (by kernel_rfl) ?_
 by_cases fk1 : (fndE l t) = 0
 ·skip
  refine J.head (.bool false) (congrArg Value.bool (bne_eq_false_iff_eq.2 fk1)) ?_
  obtain ⟨hv, ht, hfi⟩ := fnd_zero fk1
  have hvl := (valid_iff.1 hv).1
  obtain ⟨hb1, hb2, hb3⟩ := last_facts hv ht.1
  rw [← hfi] at hb1 hb2 hb3
  have hga := val_at hv (j := (fndI l t).toNat) (by omega)
  refine J.run 6 K10_3 [(20, iv (fndI l t)), (19, .slice a n c), (4, .pointer (some ⟨b1, 0, none⟩)), (1, iv t)] w2 (by kernel_rfl) ?_
  obtain ⟨p1, hp1, hc1⟩ := hl.at dr0 (fndI l t).toNat (by omega)
  refine J.ok (OK.index 21 22 5 a p1 n (fndI l t).toNat (fndI l t) (p1.add ((fndI l t).toNat * 5)) (by kernel_rfl) (by kernel_rfl) hp1 (by omega) (by omega) rfl) ?_
  refine J.ok (OK.ldCells 22 27 (p1.add ((fndI l t).toNat * 5)) [iv ((l.getD (fndI l t).toNat dr0).gAt), iv ((l.getD (fndI l t).toNat dr0).gPedal), iv ((l.getD (fndI l t).toNat dr0).gBrake), iv ((l.getD (fndI l t).toNat dr0).gGear), iv ((l.getD (fndI l t).toNat dr0).gLoad)] (by kernel_rfl) (by kernel_rfl) (by kernel_rfl) (fun j_ v_ hj_ => S2.cell (hc1 j_ v_ hj_))) ?_
  refine J.new S2 8 kvD8_1 27 (by kernel_rfl) ?_
  intro b2 w3 S3
  refine J.stBox S3 0 27 0 (.agg #[iv ((l.getD (fndI l t).toNat dr0).gAt), iv ((l.getD (fndI l t).toNat dr0).gPedal), iv ((l.getD (fndI l t).toNat dr0).gBrake), iv ((l.getD (fndI l t).toNat dr0).gGear), iv ((l.getD (fndI l t).toNat dr0).gLoad)]) [iv ((l.getD (fndI l t).toNat dr0).gAt), iv ((l.getD (fndI l t).toNat dr0).gPedal), iv ((l.getD (fndI l t).toNat dr0).gBrake), iv ((l.getD (fndI l t).toNat dr0).gGear), iv ((l.getD (fndI l t).toNat dr0).gLoad)] [box b2 [iv ((l.getD (fndI l t).toNat dr0).gAt), iv ((l.getD (fndI l t).toNat dr0).gPedal), iv ((l.getD (fndI l t).toNat dr0).gBrake), iv ((l.getD (fndI l t).toNat dr0).gGear), iv ((l.getD (fndI l t).toNat dr0).gLoad)] 27, box b1 kvD8_1 27] (by kernel_rfl) rfl (by kernel_rfl) (by kernel_rfl) rfl ?_
  intro w4 S4
  refine J.run 5 K10_4 [(24, .pointer (some ⟨b2, 0, none⟩)), (23, iv t), (8, .pointer (some ⟨b2, 0, none⟩)), (4, .pointer (some ⟨b1, 0, none⟩))] w4 (by kernel_rfl) ?_
  refine J.stBox S4 0 3 0 (iv t) [iv t, iv ((l.getD (fndI l t).toNat dr0).gPedal), iv ((l.getD (fndI l t).toNat dr0).gBrake), iv ((l.getD (fndI l t).toNat dr0).gGear), iv ((l.getD (fndI l t).toNat dr0).gLoad)] [box b2 [iv t, iv ((l.getD (fndI l t).toNat dr0).gPedal), iv ((l.getD (fndI l t).toNat dr0).gBrake), iv ((l.getD (fndI l t).toNat dr0).gGear), iv ((l.getD (fndI l t).toNat dr0).gLoad)] 27, box b1 kvD8_1 27] (by kernel_rfl) rfl (by kernel_rfl) (by kernel_rfl) rfl ?_
  intro w5 S5
  refine J.run 3 K10_5 [(8, .pointer (some ⟨b2, 0, none⟩)), (4, .pointer (some ⟨b1, 0, none⟩))] w5 (by kernel_rfl) ?_
  refine J.ok (OK.ldBox S5 0 25 27 0 (.agg #[iv t, iv ((l.getD (fndI l t).toNat dr0).gPedal), iv ((l.getD (fndI l t).toNat dr0).gBrake), iv ((l.getD (fndI l t).toNat dr0).gGear), iv ((l.getD (fndI l t).toNat dr0).gLoad)]) (by kernel_rfl) rfl (by kernel_rfl)) ?_
  refine J.stBox S5 1 27 0 (.agg #[iv t, iv ((l.getD (fndI l t).toNat dr0).gPedal), iv ((l.getD (fndI l t).toNat dr0).gBrake), iv ((l.getD (fndI l t).toNat dr0).gGear), iv ((l.getD (fndI l t).toNat dr0).gLoad)]) [iv t, iv ((l.getD (fndI l t).toNat dr0).gPedal), iv ((l.getD (fndI l t).toNat dr0).gBrake), iv ((l.getD (fndI l t).toNat dr0).gGear), iv ((l.getD (fndI l t).toNat dr0).gLoad)] [box b2 [iv t, iv ((l.getD (fndI l t).toNat dr0).gPedal), iv ((l.getD (fndI l t).toNat dr0).gBrake), iv ((l.getD (fndI l t).toNat dr0).gGear), iv ((l.getD (fndI l t).toNat dr0).gLoad)] 27, box b1 [iv t, iv ((l.getD (fndI l t).toNat dr0).gPedal), iv ((l.getD (fndI l t).toNat dr0).gBrake), iv ((l.getD (fndI l t).toNat dr0).gGear), iv ((l.getD (fndI l t).toNat dr0).gLoad)] 27] (by kernel_rfl) rfl (by kernel_rfl) (by kernel_rfl) rfl ?_
  intro w6 S6
  refine J.run 2 K10_6 [(5, iv 0), (4, .pointer (some ⟨b1, 0, none⟩))] w6 (by kernel_rfl) ?_
  refine J.ret Tryd.f10 [.agg #[iv t, iv ((l.getD (fndI l t).toNat dr0).gPedal), iv ((l.getD (fndI l t).toNat dr0).gBrake), iv ((l.getD (fndI l t).toNat dr0).gGear), iv ((l.getD (fndI l t).toNat dr0).gLoad)], iv 0] Tryd.func10 ⟨⟨⟨b1, 0, none⟩, by kernel_rfl, ldV_run (S6.nth 1 rfl) (by kernel_rfl)⟩, by kernel_rfl, trivial⟩ ?_
  refine hR _ _ ?_
  exact ⟨by rw [at_yes fk1, fk1]; rfl, S6.nil⟩
 ·skip
  refine J.head (.bool true) (congrArg Value.bool (bne_iff_ne.2 fk1)) ?_
  refine J.run 5 K10_7 [(18, iv (fndE l t)), (17, .agg #[iv 0, iv 0, iv 0, iv 0, iv 0]), (4, .pointer (some ⟨b1, 0, none⟩))] w2 (by kernel_rfl) ?_
  refine J.stBox S2 0 27 0 (.agg #[iv 0, iv 0, iv 0, iv 0, iv 0]) kvD8_1 [box b1 kvD8_1 27] (by kernel_rfl) rfl (by kernel_rfl) (by kernel_rfl) rfl ?_
  intro w7 S7
  refine J.run 2 K10_8 [(5, iv (fndE l t)), (4, .pointer (some ⟨b1, 0, none⟩))] w7 (by kernel_rfl) ?_
  refine J.ret Tryd.f10 [.agg #[iv 0, iv 0, iv 0, iv 0, iv 0], iv (fndE l t)] Tryd.func10 ⟨⟨⟨b1, 0, none⟩, by kernel_rfl, ldV_run (S7.nth 0 rfl) (by kernel_rfl)⟩, by kernel_rfl, trivial⟩ ?_
  refine hR _ _ ?_
  exact ⟨by rw [at_no fk1]; rfl, S7.nil⟩

theorem hb26 : HasBody Tryd.prog 26 := fun _ _ => by kernel_rfl
noncomputable def K26_0 : List Item := adv 10 [] (bodyOf Tryd.f26)
noncomputable def K26_1 : List Item := adv 1 [] (popK K26_0)
noncomputable def K26_2 : List Item := adv 1 [] (popK K26_1)
noncomputable def K26_3 : List Item := adv 1 [] K26_2
noncomputable def K26_4 : List Item := adv 1 [] K26_3
noncomputable def K26_5 : List Item := adv 1 [] (popK K26_4)
noncomputable def K26_6 : List Item := adv 1 [] (popK K26_5)
noncomputable def K26_7 : List Item := adv 1 [] (popK K26_6)
noncomputable def K26_8 : List Item := adv 2 [] K26_7
set_option maxRecDepth 20000 in
set_option maxHeartbeats 20000000 in
theorem bclos_any (p q t a0 a1 a2 a3 a4 c0 c1 c2 c3 c4 : Int) (b1 b2 b3 : Nat) (w : World) (h1 : (box b1 [iv t] 3).holds w) (h2 : (box b2 [iv a0, iv a1, iv a2, iv a3, iv a4] 27).holds w) (h3 : (box b3 [iv c0, iv c1, iv c2, iv c3, iv c4] 27).holds w) (hp : -2500 ≤ q - p ∧ q - p ≤ 2500) (hp2 : -2000 ≤ p ∧ p ≤ 2000 ∧ -2000 ≤ q ∧ q ≤ 2000) (ha : 0 ≤ a0 ∧ a0 ≤ t ∧ t < c0 ∧ c0 ≤ 1099511627776) : Ret Tryd.prog 26 #[iv p, iv q, .pointer (some ⟨b1, 0, none⟩), .pointer (some ⟨b2, 0, none⟩), .pointer (some ⟨b3, 0, none⟩)] w (fun v w' => v = iv (btw p q (t - a0) (c0 - a0)) ∧ Sep w [] w') := by
 have S0 := Sep.refl w
 refine Ret.named fun R hR => ?_
 refine Ret.of_J (N := 24) [(0, iv p), (1, iv q), (2, .pointer (some ⟨b1, 0, none⟩)), (3, .pointer (some ⟨b2, 0, none⟩)), (4, .pointer (some ⟨b3, 0, none⟩))] Tryd.func26 rfl rfl (Nat.le_of_ble_eq_true (by kernel_rfl)) (by kernel_rfl) ?_
 refine J.run 10 K26_0 [(11, iv (IntKind.wrap .i64 (q - p))), (8, iv p), (2, .pointer (some ⟨b1, 0, none⟩)), (3, .pointer (some ⟨b2, 0, none⟩)), (4, .pointer (some ⟨b3, 0, none⟩))] w (by kernel_rfl) ?_
 refine J.head (iv (q - p)) (congrArg (Value.int .i64) (IntWalk.i64_in _ (by omega))) ?_
 refine J.ok (OK.ldRo S0 h1 12 3 0 (iv t) (by kernel_rfl) (by kernel_rfl)) ?_
 refine J.run 1 K26_1 [(13, .pointer (some ⟨b2, 0, none⟩)), (12, iv t), (11, iv (q - p)), (8, iv p), (3, .pointer (some ⟨b2, 0, none⟩)), (4, .pointer (some ⟨b3, 0, none⟩))] w (by kernel_rfl) ?_
 refine J.ok (OK.ldRo S0 h2 14 3 0 (iv a0) (by kernel_rfl) (by kernel_rfl)) ?_
 refine J.run 1 K26_2 [(15, iv (IntKind.wrap .i64 (t - a0))), (11, iv (q - p)), (8, iv p), (3, .pointer (some ⟨b2, 0, none⟩)), (4, .pointer (some ⟨b3, 0, none⟩))] w (by kernel_rfl) ?_
 refine J.head (iv (t - a0)) (congrArg (Value.int .i64) (IntWalk.i64_in _ (by omega))) ?_
 have hpb := btw_prod (p := p) (q := q) (x := t - a0) (by omega) (by omega)
 refine J.run 1 K26_3 [(16, iv (IntKind.wrap .i64 ((q - p) * (t - a0)))), (8, iv p), (3, .pointer (some ⟨b2, 0, none⟩)), (4, .pointer (some ⟨b3, 0, none⟩))] w (by kernel_rfl) ?_
 refine J.head (iv ((q - p) * (t - a0))) (congrArg (Value.int .i64) (IntWalk.i64_in _ (by omega))) ?_
 refine J.run 1 K26_4 [(17, .pointer (some ⟨b3, 0, none⟩)), (16, iv ((q - p) * (t - a0))), (8, iv p), (3, .pointer (some ⟨b2, 0, none⟩))] w (by kernel_rfl) ?_
 refine J.ok (OK.ldRo S0 h3 18 3 0 (iv c0) (by kernel_rfl) (by kernel_rfl)) ?_
 refine J.run 1 K26_5 [(19, .pointer (some ⟨b2, 0, none⟩)), (18, iv c0), (16, iv ((q - p) * (t - a0))), (8, iv p)] w (by kernel_rfl) ?_
 refine J.ok (OK.ldRo S0 h2 20 3 0 (iv a0) (by kernel_rfl) (by kernel_rfl)) ?_
 refine J.run 1 K26_6 [(21, iv (IntKind.wrap .i64 (c0 - a0))), (16, iv ((q - p) * (t - a0))), (8, iv p)] w (by kernel_rfl) ?_
 refine J.head (iv (c0 - a0)) (congrArg (Value.int .i64) (IntWalk.i64_in _ (by omega))) ?_
 refine J.callF 22 27 #[iv ((q - p) * (t - a0)), iv (c0 - a0)] hb27 (by kernel_rfl) (floor_any ((q - p) * (t - a0)) (c0 - a0) _ (by omega) (by omega)) ?_
 rintro _ w1 ⟨rfl, T1⟩
 have S1 : Sep w [] w1 := S0.trans T1
 clear T1
 refine J.head (iv (((q - p) * (t - a0)) / (c0 - a0))) (congrArg (Value.int .i64) ((floor_val (by omega) (by omega)).trans (if_neg (by omega)))) ?_
 have hqb := btw_quot (a := (q - p) * (t - a0)) (n := c0 - a0) (by omega) (by omega)
 refine J.run 1 K26_7 [(23, iv (IntKind.wrap .i64 (p + (((q - p) * (t - a0)) / (c0 - a0)))))] w1 (by kernel_rfl) ?_
 refine J.head (iv (p + (((q - p) * (t - a0)) / (c0 - a0)))) (congrArg (Value.int .i64) (IntWalk.i64_in _ (by omega))) ?_
 refine J.run 2 K26_8 [(7, iv (p + (((q - p) * (t - a0)) / (c0 - a0))))] w1 (by kernel_rfl) ?_
 refine J.ret Tryd.f26 [iv (p + (((q - p) * (t - a0)) / (c0 - a0)))] Tryd.func26 ⟨by kernel_rfl, trivial⟩ ?_
 refine hR _ _ ?_
 exact ⟨rfl, S1.nil⟩

theorem hb11 : HasBody Tryd.prog 11 := fun _ _ => by kernel_rfl
noncomputable def K11_0 : List Item := adv 2 [] (bodyOf Tryd.f11)
noncomputable def K11_1 : List Item := adv 5 [] (popK (popK K11_0))
noncomputable def K11_2 : List Item := adv 3 [] (popK (popK K11_1))
noncomputable def K11_3 : List Item := adv 8 [] (popK (popK K11_2))
noncomputable def K11_4 : List Item := adv 5 [false] K11_3
noncomputable def K11_5 : List Item := adv 13 [] (popK (popK K11_4))
noncomputable def K11_6 : List Item := adv 2 [] K11_5
noncomputable def K11_7 : List Item := adv 3 [true] K11_6
noncomputable def K11_8 : List Item := adv 2 [] (popK (popK K11_7))
noncomputable def K11_9 : List Item := adv 3 [false] K11_6
noncomputable def K11_10 : List Item := adv 6 [] (rRest K11_9)
noncomputable def K11_11 : List Item := adv 2 [] (rRest K11_10)
noncomputable def K11_12 : List Item := adv 2 [] (popK (popK K11_11))
noncomputable def K11_13 : List Item := adv 5 [true] K11_3
noncomputable def K11_14 : List Item := adv 2 [] (popK K11_13)
set_option maxRecDepth 20000 in
set_option maxHeartbeats 20000000 in
theorem ramp_any (a : Option Addr) (n c : Nat) (l : List Dr) (t : Int) (w : World) (hl : Recs drE 5 w a n l) : Ret Tryd.prog 11 #[.slice a n c, iv t] w (fun v w' => v = .tuple #[.agg #[iv (rampD l t).gAt, iv (rampD l t).gPedal, iv (rampD l t).gBrake, iv (rampD l t).gGear, iv (rampD l t).gLoad], iv (fndE l t)] ∧ Sep w [] w') := by
 have S0 := Sep.refl w
 refine Ret.named fun R hR => ?_
 refine Ret.of_J (N := 67) [(0, .slice a n c), (1, iv t)] Tryd.func11 rfl rfl (Nat.le_of_ble_eq_true (by kernel_rfl)) (by kernel_rfl) ?_
 have hll := hl.len_eq
 refine J.run 2 K11_0 [(0, .slice a n c), (1, iv t)] w (by kernel_rfl) ?_
 refine J.new S0 3 [iv t] 3 (by kernel_rfl) ?_
 intro b1 w1 S1
 refine J.new S1 4 kvD8_1 27 (by kernel_rfl) ?_
 intro b2 w2 S2
 refine J.run 5 K11_1 [(14, .slice a n c), (4, .pointer (some ⟨b2, 0, none⟩)), (3, .pointer (some ⟨b1, 0, none⟩)), (0, .slice a n c)] w2 (by kernel_rfl) ?_
 refine J.ok (OK.ldBox S2 1 15 3 0 (iv t) (by kernel_rfl) rfl (by kernel_rfl)) ?_
 refine J.callF 16 10 #[.slice a n c, iv t] hb10 (by kernel_rfl) (at_any a n c l t _ (hl.sep S2)) ?_
 rintro _ w3 ⟨rfl, T1⟩
 have S3 : Sep w [box b2 kvD8_1 27, box b1 [iv t] 3] w3 := S2.trans T1
 clear T1 S2
 refine J.run 3 K11_2 [(18, iv (fndE l t)), (17, .agg #[iv ((atD l t).gAt), iv ((atD l t).gPedal), iv ((atD l t).gBrake), iv ((atD l t).gGear), iv ((atD l t).gLoad)]), (4, .pointer (some ⟨b2, 0, none⟩)), (3, .pointer (some ⟨b1, 0, none⟩)), (0, .slice a n c)] w3 (by kernel_rfl) ?_
 refine J.new S3 6 kvD8_1 27 (by kernel_rfl) ?_
 intro b3 w4 S4
 refine J.stBox S4 0 27 0 (.agg #[iv ((atD l t).gAt), iv ((atD l t).gPedal), iv ((atD l t).gBrake), iv ((atD l t).gGear), iv ((atD l t).gLoad)]) [iv ((atD l t).gAt), iv ((atD l t).gPedal), iv ((atD l t).gBrake), iv ((atD l t).gGear), iv ((atD l t).gLoad)] [box b3 [iv ((atD l t).gAt), iv ((atD l t).gPedal), iv ((atD l t).gBrake), iv ((atD l t).gGear), iv ((atD l t).gLoad)] 27, box b2 kvD8_1 27, box b1 [iv t] 3] (by kernel_rfl) rfl (by kernel_rfl) (by kernel_rfl) rfl ?_
 intro w5 S5
 refine J.run 8 K11_3 [(20, .bool ((fndE l t) != 0)), (7, iv (fndE l t)), (6, .pointer (some ⟨b3, 0, none⟩)), (4, .pointer (some ⟨b2, 0, none⟩)), (3, .pointer (some ⟨b1, 0, none⟩)), (0, .slice a n c)] w5 (by kernel_rfl) ?_
 by_cases fk1 : (fndE l t) = 0
 ·skip
  refine J.head (.bool false) (congrArg Value.bool (bne_eq_false_iff_eq.2 fk1)) ?_
  obtain ⟨hv, ht, hfi⟩ := fnd_zero fk1
  have hvl := (valid_iff.1 hv).1
  obtain ⟨hb1, hb2, hb3⟩ := last_facts hv ht.1
  rw [← hfi] at hb1 hb2 hb3
  have hga := val_at hv (j := (fndI l t).toNat) (by omega)
  refine J.run 5 K11_4 [(24, .slice a n c), (6, .pointer (some ⟨b3, 0, none⟩)), (4, .pointer (some ⟨b2, 0, none⟩)), (3, .pointer (some ⟨b1, 0, none⟩)), (0, .slice a n c)] w5 (by kernel_rfl) ?_
  refine J.ok (OK.ldBox S5 2 25 3 0 (iv t) (by kernel_rfl) rfl (by kernel_rfl)) ?_
  refine J.callF 26 25 #[.slice a n c, iv t] hb25 (by kernel_rfl) (find_any a n c l t _ (hl.sep S5)) ?_
  rintro _ w6 ⟨rfl, T2⟩
  have S6 : Sep w [box b3 [iv ((atD l t).gAt), iv ((atD l t).gPedal), iv ((atD l t).gBrake), iv ((atD l t).gGear), iv ((atD l t).gLoad)] 27, box b2 kvD8_1 27, box b1 [iv t] 3] w6 := S5.trans T2
  clear T2 S5
  refine J.run 13 K11_5 [(32, iv (IntKind.wrap .i64 ((n : Int) - 1))), (29, iv (fndI l t)), (8, iv (fndI l t)), (6, .pointer (some ⟨b3, 0, none⟩)), (4, .pointer (some ⟨b2, 0, none⟩)), (3, .pointer (some ⟨b1, 0, none⟩)), (0, .slice a n c)] w6 (by kernel_rfl) ?_
  refine J.head (iv ((n : Int) - 1)) (congrArg (Value.int .i64) (IntWalk.i64_in _ (by omega))) ?_
  refine J.run 2 K11_6 [(33, .bool ((fndI l t) == ((n : Int) - 1))), (8, iv (fndI l t)), (6, .pointer (some ⟨b3, 0, none⟩)), (4, .pointer (some ⟨b2, 0, none⟩)), (3, .pointer (some ⟨b1, 0, none⟩)), (0, .slice a n c)] w6 (by kernel_rfl) ?_
  by_cases fk2 : (fndI l t) = ((n : Int) - 1)
  ·skip
   refine J.head (.bool true) (congrArg Value.bool (beq_iff_eq.2 fk2)) ?_
   refine J.run 3 K11_7 [(6, .pointer (some ⟨b3, 0, none⟩)), (4, .pointer (some ⟨b2, 0, none⟩))] w6 (by kernel_rfl) ?_
   refine J.ok (OK.ldBox S6 0 34 27 0 (.agg #[iv ((atD l t).gAt), iv ((atD l t).gPedal), iv ((atD l t).gBrake), iv ((atD l t).gGear), iv ((atD l t).gLoad)]) (by kernel_rfl) rfl (by kernel_rfl)) ?_
   refine J.stBox S6 1 27 0 (.agg #[iv ((atD l t).gAt), iv ((atD l t).gPedal), iv ((atD l t).gBrake), iv ((atD l t).gGear), iv ((atD l t).gLoad)]) [iv ((atD l t).gAt), iv ((atD l t).gPedal), iv ((atD l t).gBrake), iv ((atD l t).gGear), iv ((atD l t).gLoad)] [box b3 [iv ((atD l t).gAt), iv ((atD l t).gPedal), iv ((atD l t).gBrake), iv ((atD l t).gGear), iv ((atD l t).gLoad)] 27, box b2 [iv ((atD l t).gAt), iv ((atD l t).gPedal), iv ((atD l t).gBrake), iv ((atD l t).gGear), iv ((atD l t).gLoad)] 27, box b1 [iv t] 3] (by kernel_rfl) rfl (by kernel_rfl) (by kernel_rfl) rfl ?_
   intro w7 S7
   refine J.run 2 K11_8 [(5, iv 0), (4, .pointer (some ⟨b2, 0, none⟩))] w7 (by kernel_rfl) ?_
   refine J.ret Tryd.f11 [.agg #[iv ((atD l t).gAt), iv ((atD l t).gPedal), iv ((atD l t).gBrake), iv ((atD l t).gGear), iv ((atD l t).gLoad)], iv 0] Tryd.func11 ⟨⟨⟨b2, 0, none⟩, by kernel_rfl, ldV_run (S7.nth 1 rfl) (by kernel_rfl)⟩, by kernel_rfl, trivial⟩ ?_
   refine hR _ _ ?_
   exact ⟨by rw [ramp_end fk1 (by omega), fk1]; rfl, S7.nil⟩
  ·skip
   refine J.head (.bool false) (congrArg Value.bool (beq_eq_false_iff_ne.2 fk2)) ?_
   have hgb := val_at hv (j := (fndI l t + 1).toNat) (by omega)
   have hb4 := hb3 (by omega)
   refine J.run 3 K11_9 [(8, iv (fndI l t)), (6, .pointer (some ⟨b3, 0, none⟩)), (4, .pointer (some ⟨b2, 0, none⟩)), (3, .pointer (some ⟨b1, 0, none⟩)), (0, .slice a n c)] w6 (by kernel_rfl) ?_
   obtain ⟨p1, hp1, hc1⟩ := hl.at dr0 (fndI l t).toNat (by omega)
   obtain ⟨p2, hp2, hc2⟩ := hl.at dr0 ((fndI l t) + 1).toNat (by omega)
   have W1 : ∀ (bd10 : Nat) (bd9 : Nat) (w8 : World), Sep w [box bd9 [iv ((l.getD (fndI l t).toNat dr0).gAt), iv ((l.getD (fndI l t).toNat dr0).gPedal), iv ((l.getD (fndI l t).toNat dr0).gBrake), iv ((l.getD (fndI l t).toNat dr0).gGear), iv ((l.getD (fndI l t).toNat dr0).gLoad)] 27, box bd10 [iv ((l.getD ((fndI l t) + 1).toNat dr0).gAt), iv ((l.getD ((fndI l t) + 1).toNat dr0).gPedal), iv ((l.getD ((fndI l t) + 1).toNat dr0).gBrake), iv ((l.getD ((fndI l t) + 1).toNat dr0).gGear), iv ((l.getD ((fndI l t) + 1).toNat dr0).gLoad)] 27, box b3 [iv ((atD l t).gAt), iv ((atD l t).gPedal), iv ((atD l t).gBrake), iv ((atD l t).gGear), iv ((atD l t).gLoad)] 27, box b2 kvD8_1 27, box b1 [iv t] 3] w8 → WA Tryd.prog 11 67 R K11_9 (fun w_ => Sep w [box b3 [iv ((atD l t).gAt), iv ((atD l t).gPedal), iv ((atD l t).gBrake), iv ((atD l t).gGear), iv ((atD l t).gLoad)] 27, box b2 kvD8_1 27, box b1 [iv t] 3] w_) 0 #[true, true, true, true, true, true, true, true, true, true, true, true, true] [(3, .pointer (some ⟨b1, 0, none⟩)), (4, .pointer (some ⟨b2, 0, none⟩)), (6, .pointer (some ⟨b3, 0, none⟩)), (10, .pointer (some ⟨bd9, 0, none⟩)), (11, .pointer (some ⟨bd10, 0, none⟩))] w8 := by
    intro bd10 bd9 w8 S8
    refine WA.done (by kernel_rfl) ?_
    refine J.run 0 (rRest K11_9) [(3, .pointer (some ⟨b1, 0, none⟩)), (4, .pointer (some ⟨b2, 0, none⟩)), (6, .pointer (some ⟨b3, 0, none⟩)), (10, .pointer (some ⟨bd9, 0, none⟩)), (11, .pointer (some ⟨bd10, 0, none⟩))] w8 (by kernel_rfl) ?_
    refine J.run 6 K11_10 [(12, .func (.func 26) #[] #[.pointer (some ⟨b1, 0, none⟩), .pointer (some ⟨bd9, 0, none⟩), .pointer (some ⟨bd10, 0, none⟩)]), (4, .pointer (some ⟨b2, 0, none⟩)), (6, .pointer (some ⟨b3, 0, none⟩)), (10, .pointer (some ⟨bd9, 0, none⟩)), (11, .pointer (some ⟨bd10, 0, none⟩))] w8 (by kernel_rfl) ?_
    refine J.drawPlan (fun w_ => Sep w [box bd9 [iv ((l.getD (fndI l t).toNat dr0).gAt), iv ((l.getD (fndI l t).toNat dr0).gPedal), iv ((l.getD (fndI l t).toNat dr0).gBrake), iv ((l.getD (fndI l t).toNat dr0).gGear), iv ((l.getD (fndI l t).toNat dr0).gLoad)] 27, box bd10 [iv ((l.getD ((fndI l t) + 1).toNat dr0).gAt), iv ((l.getD ((fndI l t) + 1).toNat dr0).gPedal), iv ((l.getD ((fndI l t) + 1).toNat dr0).gBrake), iv ((l.getD ((fndI l t) + 1).toNat dr0).gGear), iv ((l.getD ((fndI l t) + 1).toNat dr0).gLoad)] 27, box b2 kvD8_1 27, box b1 [iv t] 3] w_) [(0, true), (1, true), (2, true), (3, true), (4, true), (6, true), (7, true), (8, true), (9, true), (10, true), (12, true), (13, true), (14, true), (15, true), (16, true), (5, false), (18, true), (11, false), (17, false), (19, false), (20, true), (21, false), (22, true), (23, false)] S8 Tryd.mixed (by kernel_rfl) (planOK_of (T := [(0, some 45, 4096), (0, some 46, 1024), (2, some 47, 70368744177664), (0, some 48, 2048), (8, some 49, 281474976710656), (21, some 50, 738871813865472), (0, some 51, 4096), (0, some 52, 1024), (128, some 53, 4503599627370496), (0, some 54, 2048), (512, some 55, 18014398509481984), (1376, some 56, 47287796087390208), (0, some 57, 4096), (0, some 58, 1024), (8192, some 59, 288230376151711744), (0, some 60, 2048), (32768, some 61, 1152921504606846976), (88064, some 62, 3026418949592973312), (63, some 63, 64), (393279, none, 9224497936761618432), (790527, some 64, 64), (1839103, none, 18518801667747479552), (4194303, some 65, 64), (8388607, none, 41505174165846491136)]) (by kernel_rfl) (by kernel_rfl)) ?_
    intro w9 S9
    refine PB.mk (S9.erase 2) ?_
    refine PL.take 0 45 (.func (.func 26) #[] #[.pointer (some ⟨b1, 0, none⟩), .pointer (some ⟨bd9, 0, none⟩), .pointer (some ⟨bd10, 0, none⟩)]) (fun _ _ => by kernel_rfl) ?_
    refine PL.take 1 46 (.pointer (some ⟨bd9, 1, none⟩)) (fun _ _ => by kernel_rfl) ?_
    refine PL.takeOK 2 (fun w_ S_ => OK.ldBox S_ 0 47 3 1 (iv ((l.getD (fndI l t).toNat dr0).gPedal)) (by kernel_rfl) rfl (by kernel_rfl)) rfl ?_
    refine PL.take 3 48 (.pointer (some ⟨bd10, 1, none⟩)) (fun _ _ => by kernel_rfl) ?_
    refine PL.takeOK 4 (fun w_ S_ => OK.ldBox S_ 1 49 3 1 (iv ((l.getD ((fndI l t) + 1).toNat dr0).gPedal)) (by kernel_rfl) rfl (by kernel_rfl)) rfl ?_
    refine PL.take 6 51 (.func (.func 26) #[] #[.pointer (some ⟨b1, 0, none⟩), .pointer (some ⟨bd9, 0, none⟩), .pointer (some ⟨bd10, 0, none⟩)]) (fun _ _ => by kernel_rfl) ?_
    refine PL.take 7 52 (.pointer (some ⟨bd9, 2, none⟩)) (fun _ _ => by kernel_rfl) ?_
    refine PL.takeOK 8 (fun w_ S_ => OK.ldBox S_ 0 53 3 2 (iv ((l.getD (fndI l t).toNat dr0).gBrake)) (by kernel_rfl) rfl (by kernel_rfl)) rfl ?_
    refine PL.take 9 54 (.pointer (some ⟨bd10, 2, none⟩)) (fun _ _ => by kernel_rfl) ?_
    refine PL.takeOK 10 (fun w_ S_ => OK.ldBox S_ 1 55 3 2 (iv ((l.getD ((fndI l t) + 1).toNat dr0).gBrake)) (by kernel_rfl) rfl (by kernel_rfl)) rfl ?_
    refine PL.take 12 57 (.func (.func 26) #[] #[.pointer (some ⟨b1, 0, none⟩), .pointer (some ⟨bd9, 0, none⟩), .pointer (some ⟨bd10, 0, none⟩)]) (fun _ _ => by kernel_rfl) ?_
    refine PL.take 13 58 (.pointer (some ⟨bd9, 4, none⟩)) (fun _ _ => by kernel_rfl) ?_
    refine PL.takeOK 14 (fun w_ S_ => OK.ldBox S_ 0 59 3 4 (iv ((l.getD (fndI l t).toNat dr0).gLoad)) (by kernel_rfl) rfl (by kernel_rfl)) rfl ?_
    refine PL.take 15 60 (.pointer (some ⟨bd10, 4, none⟩)) (fun _ _ => by kernel_rfl) ?_
    refine PL.takeOK 16 (fun w_ S_ => OK.ldBox S_ 1 61 3 4 (iv ((l.getD ((fndI l t) + 1).toNat dr0).gLoad)) (by kernel_rfl) rfl (by kernel_rfl)) rfl ?_
    refine PL.callF 50 26 #[iv ((l.getD (fndI l t).toNat dr0).gPedal), iv ((l.getD ((fndI l t) + 1).toNat dr0).gPedal), .pointer (some ⟨b1, 0, none⟩), .pointer (some ⟨bd9, 0, none⟩), .pointer (some ⟨bd10, 0, none⟩)] hb26 (by kernel_rfl) (bclos_any ((l.getD (fndI l t).toNat dr0).gPedal) ((l.getD ((fndI l t) + 1).toNat dr0).gPedal) t ((l.getD (fndI l t).toNat dr0).gAt) ((l.getD (fndI l t).toNat dr0).gPedal) ((l.getD (fndI l t).toNat dr0).gBrake) ((l.getD (fndI l t).toNat dr0).gGear) ((l.getD (fndI l t).toNat dr0).gLoad) ((l.getD ((fndI l t) + 1).toNat dr0).gAt) ((l.getD ((fndI l t) + 1).toNat dr0).gPedal) ((l.getD ((fndI l t) + 1).toNat dr0).gBrake) ((l.getD ((fndI l t) + 1).toNat dr0).gGear) ((l.getD ((fndI l t) + 1).toNat dr0).gLoad) b1 bd9 bd10 _ (S9.nth 4 rfl) (S9.nth 0 rfl) (S9.nth 1 rfl) (by omega) (by omega) (by omega)) ?_
    rintro _ w10 ⟨rfl, T3⟩
    have S10 : Sep w [box bd9 [iv ((l.getD (fndI l t).toNat dr0).gAt), iv ((l.getD (fndI l t).toNat dr0).gPedal), iv ((l.getD (fndI l t).toNat dr0).gBrake), iv ((l.getD (fndI l t).toNat dr0).gGear), iv ((l.getD (fndI l t).toNat dr0).gLoad)] 27, box bd10 [iv ((l.getD ((fndI l t) + 1).toNat dr0).gAt), iv ((l.getD ((fndI l t) + 1).toNat dr0).gPedal), iv ((l.getD ((fndI l t) + 1).toNat dr0).gBrake), iv ((l.getD ((fndI l t) + 1).toNat dr0).gGear), iv ((l.getD ((fndI l t) + 1).toNat dr0).gLoad)] 27, box b3 [iv ((atD l t).gAt), iv ((atD l t).gPedal), iv ((atD l t).gBrake), iv ((atD l t).gGear), iv ((atD l t).gLoad)] 27, box b2 kvD8_1 27, box b1 [iv t] 3] w10 := S9.trans T3
    refine PB.mk (S10.erase 2) ?_
    refine PL.take 18 63 (.pointer (some ⟨b3, 1, none⟩)) (fun _ _ => by kernel_rfl) ?_
    refine PL.callF 56 26 #[iv ((l.getD (fndI l t).toNat dr0).gBrake), iv ((l.getD ((fndI l t) + 1).toNat dr0).gBrake), .pointer (some ⟨b1, 0, none⟩), .pointer (some ⟨bd9, 0, none⟩), .pointer (some ⟨bd10, 0, none⟩)] hb26 (by kernel_rfl) (bclos_any ((l.getD (fndI l t).toNat dr0).gBrake) ((l.getD ((fndI l t) + 1).toNat dr0).gBrake) t ((l.getD (fndI l t).toNat dr0).gAt) ((l.getD (fndI l t).toNat dr0).gPedal) ((l.getD (fndI l t).toNat dr0).gBrake) ((l.getD (fndI l t).toNat dr0).gGear) ((l.getD (fndI l t).toNat dr0).gLoad) ((l.getD ((fndI l t) + 1).toNat dr0).gAt) ((l.getD ((fndI l t) + 1).toNat dr0).gPedal) ((l.getD ((fndI l t) + 1).toNat dr0).gBrake) ((l.getD ((fndI l t) + 1).toNat dr0).gGear) ((l.getD ((fndI l t) + 1).toNat dr0).gLoad) b1 bd9 bd10 _ (S10.nth 4 rfl) (S10.nth 0 rfl) (S10.nth 1 rfl) (by omega) (by omega) (by omega)) ?_
    rintro _ w11 ⟨rfl, T4⟩
    have S11 : Sep w [box bd9 [iv ((l.getD (fndI l t).toNat dr0).gAt), iv ((l.getD (fndI l t).toNat dr0).gPedal), iv ((l.getD (fndI l t).toNat dr0).gBrake), iv ((l.getD (fndI l t).toNat dr0).gGear), iv ((l.getD (fndI l t).toNat dr0).gLoad)] 27, box bd10 [iv ((l.getD ((fndI l t) + 1).toNat dr0).gAt), iv ((l.getD ((fndI l t) + 1).toNat dr0).gPedal), iv ((l.getD ((fndI l t) + 1).toNat dr0).gBrake), iv ((l.getD ((fndI l t) + 1).toNat dr0).gGear), iv ((l.getD ((fndI l t) + 1).toNat dr0).gLoad)] 27, box b3 [iv ((atD l t).gAt), iv ((atD l t).gPedal), iv ((atD l t).gBrake), iv ((atD l t).gGear), iv ((atD l t).gLoad)] 27, box b2 kvD8_1 27, box b1 [iv t] 3] w11 := S10.trans T4
    refine PB.mk (S11.erase 2) ?_
    refine PL.callF 62 26 #[iv ((l.getD (fndI l t).toNat dr0).gLoad), iv ((l.getD ((fndI l t) + 1).toNat dr0).gLoad), .pointer (some ⟨b1, 0, none⟩), .pointer (some ⟨bd9, 0, none⟩), .pointer (some ⟨bd10, 0, none⟩)] hb26 (by kernel_rfl) (bclos_any ((l.getD (fndI l t).toNat dr0).gLoad) ((l.getD ((fndI l t) + 1).toNat dr0).gLoad) t ((l.getD (fndI l t).toNat dr0).gAt) ((l.getD (fndI l t).toNat dr0).gPedal) ((l.getD (fndI l t).toNat dr0).gBrake) ((l.getD (fndI l t).toNat dr0).gGear) ((l.getD (fndI l t).toNat dr0).gLoad) ((l.getD ((fndI l t) + 1).toNat dr0).gAt) ((l.getD ((fndI l t) + 1).toNat dr0).gPedal) ((l.getD ((fndI l t) + 1).toNat dr0).gBrake) ((l.getD ((fndI l t) + 1).toNat dr0).gGear) ((l.getD ((fndI l t) + 1).toNat dr0).gLoad) b1 bd9 bd10 _ (S11.nth 4 rfl) (S11.nth 0 rfl) (S11.nth 1 rfl) (by omega) (by omega) (by omega)) ?_
    rintro _ w12 ⟨rfl, T5⟩
    have S12 : Sep w [box bd9 [iv ((l.getD (fndI l t).toNat dr0).gAt), iv ((l.getD (fndI l t).toNat dr0).gPedal), iv ((l.getD (fndI l t).toNat dr0).gBrake), iv ((l.getD (fndI l t).toNat dr0).gGear), iv ((l.getD (fndI l t).toNat dr0).gLoad)] 27, box bd10 [iv ((l.getD ((fndI l t) + 1).toNat dr0).gAt), iv ((l.getD ((fndI l t) + 1).toNat dr0).gPedal), iv ((l.getD ((fndI l t) + 1).toNat dr0).gBrake), iv ((l.getD ((fndI l t) + 1).toNat dr0).gGear), iv ((l.getD ((fndI l t) + 1).toNat dr0).gLoad)] 27, box b3 [iv ((atD l t).gAt), iv ((atD l t).gPedal), iv ((atD l t).gBrake), iv ((atD l t).gGear), iv ((atD l t).gLoad)] 27, box b2 kvD8_1 27, box b1 [iv t] 3] w12 := S11.trans T5
    refine PB.mk (S12.erase 2) ?_
    refine PL.stBox S12 2 3 1 (iv (btw ((l.getD (fndI l t).toNat dr0).gPedal) ((l.getD ((fndI l t) + 1).toNat dr0).gPedal) (t - ((l.getD (fndI l t).toNat dr0).gAt)) (((l.getD ((fndI l t) + 1).toNat dr0).gAt) - ((l.getD (fndI l t).toNat dr0).gAt)))) [iv ((atD l t).gAt), iv (btw ((l.getD (fndI l t).toNat dr0).gPedal) ((l.getD ((fndI l t) + 1).toNat dr0).gPedal) (t - ((l.getD (fndI l t).toNat dr0).gAt)) (((l.getD ((fndI l t) + 1).toNat dr0).gAt) - ((l.getD (fndI l t).toNat dr0).gAt))), iv ((atD l t).gBrake), iv ((atD l t).gGear), iv ((atD l t).gLoad)] [box bd9 [iv ((l.getD (fndI l t).toNat dr0).gAt), iv ((l.getD (fndI l t).toNat dr0).gPedal), iv ((l.getD (fndI l t).toNat dr0).gBrake), iv ((l.getD (fndI l t).toNat dr0).gGear), iv ((l.getD (fndI l t).toNat dr0).gLoad)] 27, box bd10 [iv ((l.getD ((fndI l t) + 1).toNat dr0).gAt), iv ((l.getD ((fndI l t) + 1).toNat dr0).gPedal), iv ((l.getD ((fndI l t) + 1).toNat dr0).gBrake), iv ((l.getD ((fndI l t) + 1).toNat dr0).gGear), iv ((l.getD ((fndI l t) + 1).toNat dr0).gLoad)] 27, box b3 [iv ((atD l t).gAt), iv (btw ((l.getD (fndI l t).toNat dr0).gPedal) ((l.getD ((fndI l t) + 1).toNat dr0).gPedal) (t - ((l.getD (fndI l t).toNat dr0).gAt)) (((l.getD ((fndI l t) + 1).toNat dr0).gAt) - ((l.getD (fndI l t).toNat dr0).gAt))), iv ((atD l t).gBrake), iv ((atD l t).gGear), iv ((atD l t).gLoad)] 27, box b2 kvD8_1 27, box b1 [iv t] 3] (by kernel_rfl) rfl (by kernel_rfl) (by kernel_rfl) rfl ?_
    intro w13 S13
    refine PB.mk (S13.erase 2) ?_
    refine PL.take 20 64 (.pointer (some ⟨b3, 2, none⟩)) (fun _ _ => by kernel_rfl) ?_
    refine PL.stBox S13 2 3 2 (iv (btw ((l.getD (fndI l t).toNat dr0).gBrake) ((l.getD ((fndI l t) + 1).toNat dr0).gBrake) (t - ((l.getD (fndI l t).toNat dr0).gAt)) (((l.getD ((fndI l t) + 1).toNat dr0).gAt) - ((l.getD (fndI l t).toNat dr0).gAt)))) [iv ((atD l t).gAt), iv (btw ((l.getD (fndI l t).toNat dr0).gPedal) ((l.getD ((fndI l t) + 1).toNat dr0).gPedal) (t - ((l.getD (fndI l t).toNat dr0).gAt)) (((l.getD ((fndI l t) + 1).toNat dr0).gAt) - ((l.getD (fndI l t).toNat dr0).gAt))), iv (btw ((l.getD (fndI l t).toNat dr0).gBrake) ((l.getD ((fndI l t) + 1).toNat dr0).gBrake) (t - ((l.getD (fndI l t).toNat dr0).gAt)) (((l.getD ((fndI l t) + 1).toNat dr0).gAt) - ((l.getD (fndI l t).toNat dr0).gAt))), iv ((atD l t).gGear), iv ((atD l t).gLoad)] [box bd9 [iv ((l.getD (fndI l t).toNat dr0).gAt), iv ((l.getD (fndI l t).toNat dr0).gPedal), iv ((l.getD (fndI l t).toNat dr0).gBrake), iv ((l.getD (fndI l t).toNat dr0).gGear), iv ((l.getD (fndI l t).toNat dr0).gLoad)] 27, box bd10 [iv ((l.getD ((fndI l t) + 1).toNat dr0).gAt), iv ((l.getD ((fndI l t) + 1).toNat dr0).gPedal), iv ((l.getD ((fndI l t) + 1).toNat dr0).gBrake), iv ((l.getD ((fndI l t) + 1).toNat dr0).gGear), iv ((l.getD ((fndI l t) + 1).toNat dr0).gLoad)] 27, box b3 [iv ((atD l t).gAt), iv (btw ((l.getD (fndI l t).toNat dr0).gPedal) ((l.getD ((fndI l t) + 1).toNat dr0).gPedal) (t - ((l.getD (fndI l t).toNat dr0).gAt)) (((l.getD ((fndI l t) + 1).toNat dr0).gAt) - ((l.getD (fndI l t).toNat dr0).gAt))), iv (btw ((l.getD (fndI l t).toNat dr0).gBrake) ((l.getD ((fndI l t) + 1).toNat dr0).gBrake) (t - ((l.getD (fndI l t).toNat dr0).gAt)) (((l.getD ((fndI l t) + 1).toNat dr0).gAt) - ((l.getD (fndI l t).toNat dr0).gAt))), iv ((atD l t).gGear), iv ((atD l t).gLoad)] 27, box b2 kvD8_1 27, box b1 [iv t] 3] (by kernel_rfl) rfl (by kernel_rfl) (by kernel_rfl) rfl ?_
    intro w14 S14
    refine PB.mk (S14.erase 2) ?_
    refine PL.take 22 65 (.pointer (some ⟨b3, 4, none⟩)) (fun _ _ => by kernel_rfl) ?_
    refine PL.stBox S14 2 3 4 (iv (btw ((l.getD (fndI l t).toNat dr0).gLoad) ((l.getD ((fndI l t) + 1).toNat dr0).gLoad) (t - ((l.getD (fndI l t).toNat dr0).gAt)) (((l.getD ((fndI l t) + 1).toNat dr0).gAt) - ((l.getD (fndI l t).toNat dr0).gAt)))) [iv ((atD l t).gAt), iv (btw ((l.getD (fndI l t).toNat dr0).gPedal) ((l.getD ((fndI l t) + 1).toNat dr0).gPedal) (t - ((l.getD (fndI l t).toNat dr0).gAt)) (((l.getD ((fndI l t) + 1).toNat dr0).gAt) - ((l.getD (fndI l t).toNat dr0).gAt))), iv (btw ((l.getD (fndI l t).toNat dr0).gBrake) ((l.getD ((fndI l t) + 1).toNat dr0).gBrake) (t - ((l.getD (fndI l t).toNat dr0).gAt)) (((l.getD ((fndI l t) + 1).toNat dr0).gAt) - ((l.getD (fndI l t).toNat dr0).gAt))), iv ((atD l t).gGear), iv (btw ((l.getD (fndI l t).toNat dr0).gLoad) ((l.getD ((fndI l t) + 1).toNat dr0).gLoad) (t - ((l.getD (fndI l t).toNat dr0).gAt)) (((l.getD ((fndI l t) + 1).toNat dr0).gAt) - ((l.getD (fndI l t).toNat dr0).gAt)))] [box bd9 [iv ((l.getD (fndI l t).toNat dr0).gAt), iv ((l.getD (fndI l t).toNat dr0).gPedal), iv ((l.getD (fndI l t).toNat dr0).gBrake), iv ((l.getD (fndI l t).toNat dr0).gGear), iv ((l.getD (fndI l t).toNat dr0).gLoad)] 27, box bd10 [iv ((l.getD ((fndI l t) + 1).toNat dr0).gAt), iv ((l.getD ((fndI l t) + 1).toNat dr0).gPedal), iv ((l.getD ((fndI l t) + 1).toNat dr0).gBrake), iv ((l.getD ((fndI l t) + 1).toNat dr0).gGear), iv ((l.getD ((fndI l t) + 1).toNat dr0).gLoad)] 27, box b3 [iv ((atD l t).gAt), iv (btw ((l.getD (fndI l t).toNat dr0).gPedal) ((l.getD ((fndI l t) + 1).toNat dr0).gPedal) (t - ((l.getD (fndI l t).toNat dr0).gAt)) (((l.getD ((fndI l t) + 1).toNat dr0).gAt) - ((l.getD (fndI l t).toNat dr0).gAt))), iv (btw ((l.getD (fndI l t).toNat dr0).gBrake) ((l.getD ((fndI l t) + 1).toNat dr0).gBrake) (t - ((l.getD (fndI l t).toNat dr0).gAt)) (((l.getD ((fndI l t) + 1).toNat dr0).gAt) - ((l.getD (fndI l t).toNat dr0).gAt))), iv ((atD l t).gGear), iv (btw ((l.getD (fndI l t).toNat dr0).gLoad) ((l.getD ((fndI l t) + 1).toNat dr0).gLoad) (t - ((l.getD (fndI l t).toNat dr0).gAt)) (((l.getD ((fndI l t) + 1).toNat dr0).gAt) - ((l.getD (fndI l t).toNat dr0).gAt)))] 27, box b2 kvD8_1 27, box b1 [iv t] 3] (by kernel_rfl) rfl (by kernel_rfl) (by kernel_rfl) rfl ?_
    intro w15 S15
    refine PB.mk (S15.erase 2) ?_
    refine PL.done ?_
    refine J.run 0 (rRest K11_10) [(4, .pointer (some ⟨b2, 0, none⟩)), (6, .pointer (some ⟨b3, 0, none⟩))] w15 (by kernel_rfl) ?_
    refine J.run 2 K11_11 [(4, .pointer (some ⟨b2, 0, none⟩)), (6, .pointer (some ⟨b3, 0, none⟩))] w15 (by kernel_rfl) ?_
    refine J.ok (OK.ldBox S15 2 66 27 0 (.agg #[iv ((atD l t).gAt), iv (btw ((l.getD (fndI l t).toNat dr0).gPedal) ((l.getD ((fndI l t) + 1).toNat dr0).gPedal) (t - ((l.getD (fndI l t).toNat dr0).gAt)) (((l.getD ((fndI l t) + 1).toNat dr0).gAt) - ((l.getD (fndI l t).toNat dr0).gAt))), iv (btw ((l.getD (fndI l t).toNat dr0).gBrake) ((l.getD ((fndI l t) + 1).toNat dr0).gBrake) (t - ((l.getD (fndI l t).toNat dr0).gAt)) (((l.getD ((fndI l t) + 1).toNat dr0).gAt) - ((l.getD (fndI l t).toNat dr0).gAt))), iv ((atD l t).gGear), iv (btw ((l.getD (fndI l t).toNat dr0).gLoad) ((l.getD ((fndI l t) + 1).toNat dr0).gLoad) (t - ((l.getD (fndI l t).toNat dr0).gAt)) (((l.getD ((fndI l t) + 1).toNat dr0).gAt) - ((l.getD (fndI l t).toNat dr0).gAt)))]) (by kernel_rfl) rfl (by kernel_rfl)) ?_
    refine J.stBox S15 3 27 0 (.agg #[iv ((atD l t).gAt), iv (btw ((l.getD (fndI l t).toNat dr0).gPedal) ((l.getD ((fndI l t) + 1).toNat dr0).gPedal) (t - ((l.getD (fndI l t).toNat dr0).gAt)) (((l.getD ((fndI l t) + 1).toNat dr0).gAt) - ((l.getD (fndI l t).toNat dr0).gAt))), iv (btw ((l.getD (fndI l t).toNat dr0).gBrake) ((l.getD ((fndI l t) + 1).toNat dr0).gBrake) (t - ((l.getD (fndI l t).toNat dr0).gAt)) (((l.getD ((fndI l t) + 1).toNat dr0).gAt) - ((l.getD (fndI l t).toNat dr0).gAt))), iv ((atD l t).gGear), iv (btw ((l.getD (fndI l t).toNat dr0).gLoad) ((l.getD ((fndI l t) + 1).toNat dr0).gLoad) (t - ((l.getD (fndI l t).toNat dr0).gAt)) (((l.getD ((fndI l t) + 1).toNat dr0).gAt) - ((l.getD (fndI l t).toNat dr0).gAt)))]) [iv ((atD l t).gAt), iv (btw ((l.getD (fndI l t).toNat dr0).gPedal) ((l.getD ((fndI l t) + 1).toNat dr0).gPedal) (t - ((l.getD (fndI l t).toNat dr0).gAt)) (((l.getD ((fndI l t) + 1).toNat dr0).gAt) - ((l.getD (fndI l t).toNat dr0).gAt))), iv (btw ((l.getD (fndI l t).toNat dr0).gBrake) ((l.getD ((fndI l t) + 1).toNat dr0).gBrake) (t - ((l.getD (fndI l t).toNat dr0).gAt)) (((l.getD ((fndI l t) + 1).toNat dr0).gAt) - ((l.getD (fndI l t).toNat dr0).gAt))), iv ((atD l t).gGear), iv (btw ((l.getD (fndI l t).toNat dr0).gLoad) ((l.getD ((fndI l t) + 1).toNat dr0).gLoad) (t - ((l.getD (fndI l t).toNat dr0).gAt)) (((l.getD ((fndI l t) + 1).toNat dr0).gAt) - ((l.getD (fndI l t).toNat dr0).gAt)))] [box bd9 [iv ((l.getD (fndI l t).toNat dr0).gAt), iv ((l.getD (fndI l t).toNat dr0).gPedal), iv ((l.getD (fndI l t).toNat dr0).gBrake), iv ((l.getD (fndI l t).toNat dr0).gGear), iv ((l.getD (fndI l t).toNat dr0).gLoad)] 27, box bd10 [iv ((l.getD ((fndI l t) + 1).toNat dr0).gAt), iv ((l.getD ((fndI l t) + 1).toNat dr0).gPedal), iv ((l.getD ((fndI l t) + 1).toNat dr0).gBrake), iv ((l.getD ((fndI l t) + 1).toNat dr0).gGear), iv ((l.getD ((fndI l t) + 1).toNat dr0).gLoad)] 27, box b3 [iv ((atD l t).gAt), iv (btw ((l.getD (fndI l t).toNat dr0).gPedal) ((l.getD ((fndI l t) + 1).toNat dr0).gPedal) (t - ((l.getD (fndI l t).toNat dr0).gAt)) (((l.getD ((fndI l t) + 1).toNat dr0).gAt) - ((l.getD (fndI l t).toNat dr0).gAt))), iv (btw ((l.getD (fndI l t).toNat dr0).gBrake) ((l.getD ((fndI l t) + 1).toNat dr0).gBrake) (t - ((l.getD (fndI l t).toNat dr0).gAt)) (((l.getD ((fndI l t) + 1).toNat dr0).gAt) - ((l.getD (fndI l t).toNat dr0).gAt))), iv ((atD l t).gGear), iv (btw ((l.getD (fndI l t).toNat dr0).gLoad) ((l.getD ((fndI l t) + 1).toNat dr0).gLoad) (t - ((l.getD (fndI l t).toNat dr0).gAt)) (((l.getD ((fndI l t) + 1).toNat dr0).gAt) - ((l.getD (fndI l t).toNat dr0).gAt)))] 27, box b2 [iv ((atD l t).gAt), iv (btw ((l.getD (fndI l t).toNat dr0).gPedal) ((l.getD ((fndI l t) + 1).toNat dr0).gPedal) (t - ((l.getD (fndI l t).toNat dr0).gAt)) (((l.getD ((fndI l t) + 1).toNat dr0).gAt) - ((l.getD (fndI l t).toNat dr0).gAt))), iv (btw ((l.getD (fndI l t).toNat dr0).gBrake) ((l.getD ((fndI l t) + 1).toNat dr0).gBrake) (t - ((l.getD (fndI l t).toNat dr0).gAt)) (((l.getD ((fndI l t) + 1).toNat dr0).gAt) - ((l.getD (fndI l t).toNat dr0).gAt))), iv ((atD l t).gGear), iv (btw ((l.getD (fndI l t).toNat dr0).gLoad) ((l.getD ((fndI l t) + 1).toNat dr0).gLoad) (t - ((l.getD (fndI l t).toNat dr0).gAt)) (((l.getD ((fndI l t) + 1).toNat dr0).gAt) - ((l.getD (fndI l t).toNat dr0).gAt)))] 27, box b1 [iv t] 3] (by kernel_rfl) rfl (by kernel_rfl) (by kernel_rfl) rfl ?_
    intro w16 S16
    refine J.run 2 K11_12 [(5, iv 0), (4, .pointer (some ⟨b2, 0, none⟩))] w16 (by kernel_rfl) ?_
    refine J.ret Tryd.f11 [.agg #[iv ((atD l t).gAt), iv (btw ((l.getD (fndI l t).toNat dr0).gPedal) ((l.getD ((fndI l t) + 1).toNat dr0).gPedal) (t - ((l.getD (fndI l t).toNat dr0).gAt)) (((l.getD ((fndI l t) + 1).toNat dr0).gAt) - ((l.getD (fndI l t).toNat dr0).gAt))), iv (btw ((l.getD (fndI l t).toNat dr0).gBrake) ((l.getD ((fndI l t) + 1).toNat dr0).gBrake) (t - ((l.getD (fndI l t).toNat dr0).gAt)) (((l.getD ((fndI l t) + 1).toNat dr0).gAt) - ((l.getD (fndI l t).toNat dr0).gAt))), iv ((atD l t).gGear), iv (btw ((l.getD (fndI l t).toNat dr0).gLoad) ((l.getD ((fndI l t) + 1).toNat dr0).gLoad) (t - ((l.getD (fndI l t).toNat dr0).gAt)) (((l.getD ((fndI l t) + 1).toNat dr0).gAt) - ((l.getD (fndI l t).toNat dr0).gAt)))], iv 0] Tryd.func11 ⟨⟨⟨b2, 0, none⟩, by kernel_rfl, ldV_run (S16.nth 3 rfl) (by kernel_rfl)⟩, by kernel_rfl, trivial⟩ ?_
    refine hR _ _ ?_
    exact ⟨by rw [at_yes fk1, ramp_in fk1 (by omega), fk1]; rfl, S16.nil⟩
   have W2 : ∀ (bd10 : Nat) (bd9 : Nat) (w17 : World), Sep w [box bd9 [iv ((l.getD (fndI l t).toNat dr0).gAt), iv ((l.getD (fndI l t).toNat dr0).gPedal), iv ((l.getD (fndI l t).toNat dr0).gBrake), iv ((l.getD (fndI l t).toNat dr0).gGear), iv ((l.getD (fndI l t).toNat dr0).gLoad)] 27, box bd10 kvD8_1 27, box b3 [iv ((atD l t).gAt), iv ((atD l t).gPedal), iv ((atD l t).gBrake), iv ((atD l t).gGear), iv ((atD l t).gLoad)] 27, box b2 kvD8_1 27, box b1 [iv t] 3] w17 → WA Tryd.prog 11 67 R K11_9 (fun w_ => Sep w [box b3 [iv ((atD l t).gAt), iv ((atD l t).gPedal), iv ((atD l t).gBrake), iv ((atD l t).gGear), iv ((atD l t).gLoad)] 27, box b2 kvD8_1 27, box b1 [iv t] 3] w_) 1 #[true, true, true, true, true, true, true, true, true, true, true, true, false] [(3, .pointer (some ⟨b1, 0, none⟩)), (4, .pointer (some ⟨b2, 0, none⟩)), (6, .pointer (some ⟨b3, 0, none⟩)), (10, .pointer (some ⟨bd9, 0, none⟩)), (11, .pointer (some ⟨bd10, 0, none⟩)), (43, .agg #[iv ((l.getD ((fndI l t) + 1).toNat dr0).gAt), iv ((l.getD ((fndI l t) + 1).toNat dr0).gPedal), iv ((l.getD ((fndI l t) + 1).toNat dr0).gBrake), iv ((l.getD ((fndI l t) + 1).toNat dr0).gGear), iv ((l.getD ((fndI l t) + 1).toNat dr0).gLoad)])] w17 := by
    intro bd10 bd9 w17 S17
    refine WA.all [12] (by kernel_rfl) rfl ⟨?_, trivial⟩
    ·skip
     refine WO.set #[true, true, true, true, true, true, true, true, true, true, true, true, true] (by kernel_rfl) ?_
     refine WO.stBox S17 1 27 0 (.agg #[iv ((l.getD ((fndI l t) + 1).toNat dr0).gAt), iv ((l.getD ((fndI l t) + 1).toNat dr0).gPedal), iv ((l.getD ((fndI l t) + 1).toNat dr0).gBrake), iv ((l.getD ((fndI l t) + 1).toNat dr0).gGear), iv ((l.getD ((fndI l t) + 1).toNat dr0).gLoad)]) [iv ((l.getD ((fndI l t) + 1).toNat dr0).gAt), iv ((l.getD ((fndI l t) + 1).toNat dr0).gPedal), iv ((l.getD ((fndI l t) + 1).toNat dr0).gBrake), iv ((l.getD ((fndI l t) + 1).toNat dr0).gGear), iv ((l.getD ((fndI l t) + 1).toNat dr0).gLoad)] [box bd9 [iv ((l.getD (fndI l t).toNat dr0).gAt), iv ((l.getD (fndI l t).toNat dr0).gPedal), iv ((l.getD (fndI l t).toNat dr0).gBrake), iv ((l.getD (fndI l t).toNat dr0).gGear), iv ((l.getD (fndI l t).toNat dr0).gLoad)] 27, box bd10 [iv ((l.getD ((fndI l t) + 1).toNat dr0).gAt), iv ((l.getD ((fndI l t) + 1).toNat dr0).gPedal), iv ((l.getD ((fndI l t) + 1).toNat dr0).gBrake), iv ((l.getD ((fndI l t) + 1).toNat dr0).gGear), iv ((l.getD ((fndI l t) + 1).toNat dr0).gLoad)] 27, box b3 [iv ((atD l t).gAt), iv ((atD l t).gPedal), iv ((atD l t).gBrake), iv ((atD l t).gGear), iv ((atD l t).gLoad)] 27, box b2 kvD8_1 27, box b1 [iv t] 3] (by kernel_rfl) rfl (by kernel_rfl) (by kernel_rfl) rfl ?_
     intro w18 S18
     refine WB.mk ((S18.erase 1).erase 0) ?_
     refine WA.weaken (env' := [(3, .pointer (some ⟨b1, 0, none⟩)), (4, .pointer (some ⟨b2, 0, none⟩)), (6, .pointer (some ⟨b3, 0, none⟩)), (10, .pointer (some ⟨bd9, 0, none⟩)), (11, .pointer (some ⟨bd10, 0, none⟩))]) (by kernel_rfl) ?_
     exact W1 bd10 bd9 w18 S18
   have W3 : ∀ (bd10 : Nat) (bd9 : Nat) (w19 : World), Sep w [box bd9 kvD8_1 27, box bd10 kvD8_1 27, box b3 [iv ((atD l t).gAt), iv ((atD l t).gPedal), iv ((atD l t).gBrake), iv ((atD l t).gGear), iv ((atD l t).gLoad)] 27, box b2 kvD8_1 27, box b1 [iv t] 3] w19 → WA Tryd.prog 11 67 R K11_9 (fun w_ => Sep w [box b3 [iv ((atD l t).gAt), iv ((atD l t).gPedal), iv ((atD l t).gBrake), iv ((atD l t).gGear), iv ((atD l t).gLoad)] 27, box b2 kvD8_1 27, box b1 [iv t] 3] w_) 2 #[true, true, true, true, true, true, true, true, true, true, true, false, false] [(3, .pointer (some ⟨b1, 0, none⟩)), (4, .pointer (some ⟨b2, 0, none⟩)), (6, .pointer (some ⟨b3, 0, none⟩)), (10, .pointer (some ⟨bd9, 0, none⟩)), (11, .pointer (some ⟨bd10, 0, none⟩)), (38, .agg #[iv ((l.getD (fndI l t).toNat dr0).gAt), iv ((l.getD (fndI l t).toNat dr0).gPedal), iv ((l.getD (fndI l t).toNat dr0).gBrake), iv ((l.getD (fndI l t).toNat dr0).gGear), iv ((l.getD (fndI l t).toNat dr0).gLoad)]), (43, .agg #[iv ((l.getD ((fndI l t) + 1).toNat dr0).gAt), iv ((l.getD ((fndI l t) + 1).toNat dr0).gPedal), iv ((l.getD ((fndI l t) + 1).toNat dr0).gBrake), iv ((l.getD ((fndI l t) + 1).toNat dr0).gGear), iv ((l.getD ((fndI l t) + 1).toNat dr0).gLoad)])] w19 := by
    intro bd10 bd9 w19 S19
    refine WA.all [11] (by kernel_rfl) rfl ⟨?_, trivial⟩
    ·skip
     refine WO.set #[true, true, true, true, true, true, true, true, true, true, true, true, false] (by kernel_rfl) ?_
     refine WO.stBox S19 0 27 0 (.agg #[iv ((l.getD (fndI l t).toNat dr0).gAt), iv ((l.getD (fndI l t).toNat dr0).gPedal), iv ((l.getD (fndI l t).toNat dr0).gBrake), iv ((l.getD (fndI l t).toNat dr0).gGear), iv ((l.getD (fndI l t).toNat dr0).gLoad)]) [iv ((l.getD (fndI l t).toNat dr0).gAt), iv ((l.getD (fndI l t).toNat dr0).gPedal), iv ((l.getD (fndI l t).toNat dr0).gBrake), iv ((l.getD (fndI l t).toNat dr0).gGear), iv ((l.getD (fndI l t).toNat dr0).gLoad)] [box bd9 [iv ((l.getD (fndI l t).toNat dr0).gAt), iv ((l.getD (fndI l t).toNat dr0).gPedal), iv ((l.getD (fndI l t).toNat dr0).gBrake), iv ((l.getD (fndI l t).toNat dr0).gGear), iv ((l.getD (fndI l t).toNat dr0).gLoad)] 27, box bd10 kvD8_1 27, box b3 [iv ((atD l t).gAt), iv ((atD l t).gPedal), iv ((atD l t).gBrake), iv ((atD l t).gGear), iv ((atD l t).gLoad)] 27, box b2 kvD8_1 27, box b1 [iv t] 3] (by kernel_rfl) rfl (by kernel_rfl) (by kernel_rfl) rfl ?_
     intro w20 S20
     refine WB.mk ((S20.erase 1).erase 0) ?_
     refine WA.weaken (env' := [(3, .pointer (some ⟨b1, 0, none⟩)), (4, .pointer (some ⟨b2, 0, none⟩)), (6, .pointer (some ⟨b3, 0, none⟩)), (10, .pointer (some ⟨bd9, 0, none⟩)), (11, .pointer (some ⟨bd10, 0, none⟩)), (43, .agg #[iv ((l.getD ((fndI l t) + 1).toNat dr0).gAt), iv ((l.getD ((fndI l t) + 1).toNat dr0).gPedal), iv ((l.getD ((fndI l t) + 1).toNat dr0).gBrake), iv ((l.getD ((fndI l t) + 1).toNat dr0).gGear), iv ((l.getD ((fndI l t) + 1).toNat dr0).gLoad)])]) (by kernel_rfl) ?_
     exact W2 bd10 bd9 w20 S20
   have W4 : ∀ (bd9 : Nat) (w21 : World), Sep w [box bd9 kvD8_1 27, box b3 [iv ((atD l t).gAt), iv ((atD l t).gPedal), iv ((atD l t).gBrake), iv ((atD l t).gGear), iv ((atD l t).gLoad)] 27, box b2 kvD8_1 27, box b1 [iv t] 3] w21 → WA Tryd.prog 11 67 R K11_9 (fun w_ => Sep w [box b3 [iv ((atD l t).gAt), iv ((atD l t).gPedal), iv ((atD l t).gBrake), iv ((atD l t).gGear), iv ((atD l t).gLoad)] 27, box b2 kvD8_1 27, box b1 [iv t] 3] w_) 3 #[true, true, true, true, true, true, true, true, true, true, false, false, false] [(3, .pointer (some ⟨b1, 0, none⟩)), (4, .pointer (some ⟨b2, 0, none⟩)), (6, .pointer (some ⟨b3, 0, none⟩)), (10, .pointer (some ⟨bd9, 0, none⟩)), (38, .agg #[iv ((l.getD (fndI l t).toNat dr0).gAt), iv ((l.getD (fndI l t).toNat dr0).gPedal), iv ((l.getD (fndI l t).toNat dr0).gBrake), iv ((l.getD (fndI l t).toNat dr0).gGear), iv ((l.getD (fndI l t).toNat dr0).gLoad)]), (43, .agg #[iv ((l.getD ((fndI l t) + 1).toNat dr0).gAt), iv ((l.getD ((fndI l t) + 1).toNat dr0).gPedal), iv ((l.getD ((fndI l t) + 1).toNat dr0).gBrake), iv ((l.getD ((fndI l t) + 1).toNat dr0).gGear), iv ((l.getD ((fndI l t) + 1).toNat dr0).gLoad)])] w21 := by
    intro bd9 w21 S21
    refine WA.all [10] (by kernel_rfl) rfl ⟨?_, trivial⟩
    ·skip
     refine WO.set #[true, true, true, true, true, true, true, true, true, true, true, false, false] (by kernel_rfl) ?_
     refine WO.new S21 11 kvD8_1 27 (by kernel_rfl) ?_
     intro bd10 w22 S22
     refine WB.mk ((S22.erase 1).erase 0) ?_
     refine WA.weaken (env' := [(3, .pointer (some ⟨b1, 0, none⟩)), (4, .pointer (some ⟨b2, 0, none⟩)), (6, .pointer (some ⟨b3, 0, none⟩)), (10, .pointer (some ⟨bd9, 0, none⟩)), (11, .pointer (some ⟨bd10, 0, none⟩)), (38, .agg #[iv ((l.getD (fndI l t).toNat dr0).gAt), iv ((l.getD (fndI l t).toNat dr0).gPedal), iv ((l.getD (fndI l t).toNat dr0).gBrake), iv ((l.getD (fndI l t).toNat dr0).gGear), iv ((l.getD (fndI l t).toNat dr0).gLoad)]), (43, .agg #[iv ((l.getD ((fndI l t) + 1).toNat dr0).gAt), iv ((l.getD ((fndI l t) + 1).toNat dr0).gPedal), iv ((l.getD ((fndI l t) + 1).toNat dr0).gBrake), iv ((l.getD ((fndI l t) + 1).toNat dr0).gGear), iv ((l.getD ((fndI l t) + 1).toNat dr0).gLoad)])]) (by kernel_rfl) ?_
     have S23 : Sep w [box bd10 kvD8_1 27, box bd9 kvD8_1 27, box b3 [iv ((atD l t).gAt), iv ((atD l t).gPedal), iv ((atD l t).gBrake), iv ((atD l t).gGear), iv ((atD l t).gLoad)] 27, box b2 kvD8_1 27, box b1 [iv t] 3] w22 := S22.front 0 rfl
     have S24 : Sep w [box bd9 kvD8_1 27, box bd10 kvD8_1 27, box b3 [iv ((atD l t).gAt), iv ((atD l t).gPedal), iv ((atD l t).gBrake), iv ((atD l t).gGear), iv ((atD l t).gLoad)] 27, box b2 kvD8_1 27, box b1 [iv t] 3] w22 := S23.front 1 rfl
     exact W3 bd10 bd9 w22 S24
   have W5 : ∀ (bd10 : Nat) (w23 : World), Sep w [box bd10 kvD8_1 27, box b3 [iv ((atD l t).gAt), iv ((atD l t).gPedal), iv ((atD l t).gBrake), iv ((atD l t).gGear), iv ((atD l t).gLoad)] 27, box b2 kvD8_1 27, box b1 [iv t] 3] w23 → WA Tryd.prog 11 67 R K11_9 (fun w_ => Sep w [box b3 [iv ((atD l t).gAt), iv ((atD l t).gPedal), iv ((atD l t).gBrake), iv ((atD l t).gGear), iv ((atD l t).gLoad)] 27, box b2 kvD8_1 27, box b1 [iv t] 3] w_) 3 #[true, true, true, true, true, true, true, true, true, false, true, false, false] [(3, .pointer (some ⟨b1, 0, none⟩)), (4, .pointer (some ⟨b2, 0, none⟩)), (6, .pointer (some ⟨b3, 0, none⟩)), (11, .pointer (some ⟨bd10, 0, none⟩)), (38, .agg #[iv ((l.getD (fndI l t).toNat dr0).gAt), iv ((l.getD (fndI l t).toNat dr0).gPedal), iv ((l.getD (fndI l t).toNat dr0).gBrake), iv ((l.getD (fndI l t).toNat dr0).gGear), iv ((l.getD (fndI l t).toNat dr0).gLoad)]), (43, .agg #[iv ((l.getD ((fndI l t) + 1).toNat dr0).gAt), iv ((l.getD ((fndI l t) + 1).toNat dr0).gPedal), iv ((l.getD ((fndI l t) + 1).toNat dr0).gBrake), iv ((l.getD ((fndI l t) + 1).toNat dr0).gGear), iv ((l.getD ((fndI l t) + 1).toNat dr0).gLoad)])] w23 := by
    intro bd10 w23 S25
    refine WA.all [9] (by kernel_rfl) rfl ⟨?_, trivial⟩
    ·skip
     refine WO.set #[true, true, true, true, true, true, true, true, true, true, true, false, false] (by kernel_rfl) ?_
     refine WO.new S25 10 kvD8_1 27 (by kernel_rfl) ?_
     intro bd9 w24 S26
     refine WB.mk ((S26.erase 1).erase 0) ?_
     refine WA.weaken (env' := [(3, .pointer (some ⟨b1, 0, none⟩)), (4, .pointer (some ⟨b2, 0, none⟩)), (6, .pointer (some ⟨b3, 0, none⟩)), (10, .pointer (some ⟨bd9, 0, none⟩)), (11, .pointer (some ⟨bd10, 0, none⟩)), (38, .agg #[iv ((l.getD (fndI l t).toNat dr0).gAt), iv ((l.getD (fndI l t).toNat dr0).gPedal), iv ((l.getD (fndI l t).toNat dr0).gBrake), iv ((l.getD (fndI l t).toNat dr0).gGear), iv ((l.getD (fndI l t).toNat dr0).gLoad)]), (43, .agg #[iv ((l.getD ((fndI l t) + 1).toNat dr0).gAt), iv ((l.getD ((fndI l t) + 1).toNat dr0).gPedal), iv ((l.getD ((fndI l t) + 1).toNat dr0).gBrake), iv ((l.getD ((fndI l t) + 1).toNat dr0).gGear), iv ((l.getD ((fndI l t) + 1).toNat dr0).gLoad)])]) (by kernel_rfl) ?_
     exact W3 bd10 bd9 w24 S26
   have W6 : ∀ (w25 : World), Sep w [box b3 [iv ((atD l t).gAt), iv ((atD l t).gPedal), iv ((atD l t).gBrake), iv ((atD l t).gGear), iv ((atD l t).gLoad)] 27, box b2 kvD8_1 27, box b1 [iv t] 3] w25 → WA Tryd.prog 11 67 R K11_9 (fun w_ => Sep w [box b3 [iv ((atD l t).gAt), iv ((atD l t).gPedal), iv ((atD l t).gBrake), iv ((atD l t).gGear), iv ((atD l t).gLoad)] 27, box b2 kvD8_1 27, box b1 [iv t] 3] w_) 4 #[true, true, true, true, true, true, true, true, true, false, false, false, false] [(3, .pointer (some ⟨b1, 0, none⟩)), (4, .pointer (some ⟨b2, 0, none⟩)), (6, .pointer (some ⟨b3, 0, none⟩)), (38, .agg #[iv ((l.getD (fndI l t).toNat dr0).gAt), iv ((l.getD (fndI l t).toNat dr0).gPedal), iv ((l.getD (fndI l t).toNat dr0).gBrake), iv ((l.getD (fndI l t).toNat dr0).gGear), iv ((l.getD (fndI l t).toNat dr0).gLoad)]), (43, .agg #[iv ((l.getD ((fndI l t) + 1).toNat dr0).gAt), iv ((l.getD ((fndI l t) + 1).toNat dr0).gPedal), iv ((l.getD ((fndI l t) + 1).toNat dr0).gBrake), iv ((l.getD ((fndI l t) + 1).toNat dr0).gGear), iv ((l.getD ((fndI l t) + 1).toNat dr0).gLoad)])] w25 := by
    intro w25 S27
    refine WA.all [9, 10] (by kernel_rfl) rfl ⟨?_, ?_, trivial⟩
    ·skip
     refine WO.set #[true, true, true, true, true, true, true, true, true, true, false, false, false] (by kernel_rfl) ?_
     refine WO.new S27 10 kvD8_1 27 (by kernel_rfl) ?_
     intro bd9 w26 S28
     refine WB.mk (S28.erase 0) ?_
     refine WA.weaken (env' := [(3, .pointer (some ⟨b1, 0, none⟩)), (4, .pointer (some ⟨b2, 0, none⟩)), (6, .pointer (some ⟨b3, 0, none⟩)), (10, .pointer (some ⟨bd9, 0, none⟩)), (38, .agg #[iv ((l.getD (fndI l t).toNat dr0).gAt), iv ((l.getD (fndI l t).toNat dr0).gPedal), iv ((l.getD (fndI l t).toNat dr0).gBrake), iv ((l.getD (fndI l t).toNat dr0).gGear), iv ((l.getD (fndI l t).toNat dr0).gLoad)]), (43, .agg #[iv ((l.getD ((fndI l t) + 1).toNat dr0).gAt), iv ((l.getD ((fndI l t) + 1).toNat dr0).gPedal), iv ((l.getD ((fndI l t) + 1).toNat dr0).gBrake), iv ((l.getD ((fndI l t) + 1).toNat dr0).gGear), iv ((l.getD ((fndI l t) + 1).toNat dr0).gLoad)])]) (by kernel_rfl) ?_
     exact W4 bd9 w26 S28
    ·skip
     refine WO.set #[true, true, true, true, true, true, true, true, true, false, true, false, false] (by kernel_rfl) ?_
     refine WO.new S27 11 kvD8_1 27 (by kernel_rfl) ?_
     intro bd10 w27 S29
     refine WB.mk (S29.erase 0) ?_
     refine WA.weaken (env' := [(3, .pointer (some ⟨b1, 0, none⟩)), (4, .pointer (some ⟨b2, 0, none⟩)), (6, .pointer (some ⟨b3, 0, none⟩)), (11, .pointer (some ⟨bd10, 0, none⟩)), (38, .agg #[iv ((l.getD (fndI l t).toNat dr0).gAt), iv ((l.getD (fndI l t).toNat dr0).gPedal), iv ((l.getD (fndI l t).toNat dr0).gBrake), iv ((l.getD (fndI l t).toNat dr0).gGear), iv ((l.getD (fndI l t).toNat dr0).gLoad)]), (43, .agg #[iv ((l.getD ((fndI l t) + 1).toNat dr0).gAt), iv ((l.getD ((fndI l t) + 1).toNat dr0).gPedal), iv ((l.getD ((fndI l t) + 1).toNat dr0).gBrake), iv ((l.getD ((fndI l t) + 1).toNat dr0).gGear), iv ((l.getD ((fndI l t) + 1).toNat dr0).gLoad)])]) (by kernel_rfl) ?_
     exact W5 bd10 w27 S29
   refine J.drawAny (fun w_ => Sep w [box b3 [iv ((atD l t).gAt), iv ((atD l t).gPedal), iv ((atD l t).gBrake), iv ((atD l t).gGear), iv ((atD l t).gLoad)] 27, box b2 kvD8_1 27, box b1 [iv t] 3] w_) S6 13 #[false, false, false, false, false, false, false, false, false, false, false, false, false] Tryd.mixed (by kernel_rfl) (by kernel_rfl) (by kernel_rfl) ?_
   intro w28 S30
   refine WB.mk S30 ?_
   refine WA.take 0 35 (.slice a n c) #[true, false, false, false, false, false, false, false, false, false, false, false, false] (by kernel_rfl) (by kernel_rfl) (by kernel_rfl) (fun _ _ => by kernel_rfl) (by kernel_rfl) ?_
   refine WA.take 1 36 (iv (fndI l t)) #[true, true, false, false, false, false, false, false, false, false, false, false, false] (by kernel_rfl) (by kernel_rfl) (by kernel_rfl) (fun _ _ => by kernel_rfl) (by kernel_rfl) ?_
   refine WA.takeOK 2 #[true, true, true, false, false, false, false, false, false, false, false, false, false] (by kernel_rfl) (by kernel_rfl) (by kernel_rfl) (by kernel_rfl) (fun w_ S_ => OK.index 37 22 5 a p1 n (fndI l t).toNat (fndI l t) (p1.add ((fndI l t).toNat * 5)) (by kernel_rfl) (by kernel_rfl) hp1 (by omega) (by omega) rfl) rfl ?_
   refine WA.takeOK 3 #[true, true, true, true, false, false, false, false, false, false, false, false, false] (by kernel_rfl) (by kernel_rfl) (by kernel_rfl) (by kernel_rfl) (fun w_ S_ => OK.ldCells 38 27 (p1.add ((fndI l t).toNat * 5)) [iv ((l.getD (fndI l t).toNat dr0).gAt), iv ((l.getD (fndI l t).toNat dr0).gPedal), iv ((l.getD (fndI l t).toNat dr0).gBrake), iv ((l.getD (fndI l t).toNat dr0).gGear), iv ((l.getD (fndI l t).toNat dr0).gLoad)] (by kernel_rfl) (by kernel_rfl) (by kernel_rfl) (fun j_ v_ hj_ => S_.cell (hc1 j_ v_ hj_))) rfl ?_
   refine WA.take 4 39 (.slice a n c) #[true, true, true, true, true, false, false, false, false, false, false, false, false] (by kernel_rfl) (by kernel_rfl) (by kernel_rfl) (fun _ _ => by kernel_rfl) (by kernel_rfl) ?_
   refine WA.take 5 40 (iv (fndI l t)) #[true, true, true, true, true, true, false, false, false, false, false, false, false] (by kernel_rfl) (by kernel_rfl) (by kernel_rfl) (fun _ _ => by kernel_rfl) (by kernel_rfl) ?_
   refine WA.take 6 41 (iv (IntKind.wrap .i64 ((fndI l t) + 1))) #[true, true, true, true, true, true, true, false, false, false, false, false, false] (by kernel_rfl) (by kernel_rfl) (by kernel_rfl) (fun _ _ => by kernel_rfl) (by kernel_rfl) ?_
   refine WA.head (iv ((fndI l t) + 1)) (congrArg (Value.int .i64) (IntWalk.i64_in _ (by omega))) ?_
   refine WA.takeOK 7 #[true, true, true, true, true, true, true, true, false, false, false, false, false] (by kernel_rfl) (by kernel_rfl) (by kernel_rfl) (by kernel_rfl) (fun w_ S_ => OK.index 42 22 5 a p2 n ((fndI l t) + 1).toNat ((fndI l t) + 1) (p2.add (((fndI l t) + 1).toNat * 5)) (by kernel_rfl) (by kernel_rfl) hp2 (by omega) (by omega) rfl) rfl ?_
   refine WA.takeOK 8 #[true, true, true, true, true, true, true, true, true, false, false, false, false] (by kernel_rfl) (by kernel_rfl) (by kernel_rfl) (by kernel_rfl) (fun w_ S_ => OK.ldCells 43 27 (p2.add (((fndI l t) + 1).toNat * 5)) [iv ((l.getD ((fndI l t) + 1).toNat dr0).gAt), iv ((l.getD ((fndI l t) + 1).toNat dr0).gPedal), iv ((l.getD ((fndI l t) + 1).toNat dr0).gBrake), iv ((l.getD ((fndI l t) + 1).toNat dr0).gGear), iv ((l.getD ((fndI l t) + 1).toNat dr0).gLoad)] (by kernel_rfl) (by kernel_rfl) (by kernel_rfl) (fun j_ v_ hj_ => S_.cell (hc2 j_ v_ hj_))) rfl ?_
   refine WA.weaken (env' := [(3, .pointer (some ⟨b1, 0, none⟩)), (4, .pointer (some ⟨b2, 0, none⟩)), (6, .pointer (some ⟨b3, 0, none⟩)), (38, .agg #[iv ((l.getD (fndI l t).toNat dr0).gAt), iv ((l.getD (fndI l t).toNat dr0).gPedal), iv ((l.getD (fndI l t).toNat dr0).gBrake), iv ((l.getD (fndI l t).toNat dr0).gGear), iv ((l.getD (fndI l t).toNat dr0).gLoad)]), (43, .agg #[iv ((l.getD ((fndI l t) + 1).toNat dr0).gAt), iv ((l.getD ((fndI l t) + 1).toNat dr0).gPedal), iv ((l.getD ((fndI l t) + 1).toNat dr0).gBrake), iv ((l.getD ((fndI l t) + 1).toNat dr0).gGear), iv ((l.getD ((fndI l t) + 1).toNat dr0).gLoad)])]) (by kernel_rfl) ?_
   exact W6 w28 S30
 ·skip
  refine J.head (.bool true) (congrArg Value.bool (bne_iff_ne.2 fk1)) ?_
  refine J.run 5 K11_13 [(22, iv (fndE l t)), (21, .agg #[iv 0, iv 0, iv 0, iv 0, iv 0]), (4, .pointer (some ⟨b2, 0, none⟩))] w5 (by kernel_rfl) ?_
  refine J.stBox S5 1 27 0 (.agg #[iv 0, iv 0, iv 0, iv 0, iv 0]) kvD8_1 [box b3 [iv ((atD l t).gAt), iv ((atD l t).gPedal), iv ((atD l t).gBrake), iv ((atD l t).gGear), iv ((atD l t).gLoad)] 27, box b2 kvD8_1 27, box b1 [iv t] 3] (by kernel_rfl) rfl (by kernel_rfl) (by kernel_rfl) rfl ?_
  intro w29 S31
  refine J.run 2 K11_14 [(5, iv (fndE l t)), (4, .pointer (some ⟨b2, 0, none⟩))] w29 (by kernel_rfl) ?_
  refine J.ret Tryd.f11 [.agg #[iv 0, iv 0, iv 0, iv 0, iv 0], iv (fndE l t)] Tryd.func11 ⟨⟨⟨b2, 0, none⟩, by kernel_rfl, ldV_run (S31.nth 1 rfl) (by kernel_rfl)⟩, by kernel_rfl, trivial⟩ ?_
  refine hR _ _ ?_
  exact ⟨by rw [ramp_no fk1]; rfl, S31.nil⟩

end Go.Proofs.YthhdaackhfffiaaDoor

