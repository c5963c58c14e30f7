/- Walks of functions of this seat, printed by a program over the engine. Conditions: as each theorem says. -/
import Derived.Test.YthfpejhonhaggaaDoorW5
namespace Go.Proofs.YthfpejhonhaggaaDoor
open Go.Eng Go.RowKit
set_option linter.unusedSimpArgs false
set_option linter.unusedVariables false
theorem hb8 : HasBody Tryd.prog 8 := fun _ _ => by kernel_rfl
noncomputable def K8_0 : List Item := adv 2 [] (bodyOf Tryd.f8)
noncomputable def K8_1 : List Item := adv 19 [false] (popK K8_0)
noncomputable def K8_2 : List Item := adv 5 [] (popK K8_1)
noncomputable def K8_3 : List Item := adv 5 [] K8_2
noncomputable def K8_4 : List Item := adv 6 [true] K8_3
noncomputable def K8_5 : List Item := adv 5 [] (popK (popK K8_4))
noncomputable def K8_6 : List Item := adv 2 [] K8_5
noncomputable def K8_7 : List Item := adv 1 [] K8_6
noncomputable def K8_8 : List Item := adv 5 [] K8_7
noncomputable def K8_9 : List Item := adv 3 [false] K8_3
noncomputable def K8_10 : List Item := adv 3 [] (rRest K8_9)
noncomputable def K8_11 : List Item := adv 2 [] (popK (popK K8_10))
noncomputable def K8_12 : List Item := adv 4 [false] K8_11
noncomputable def K8_13 : List Item := adv 2 [] (popK (popK K8_12))
noncomputable def K8_14 : List Item := adv 4 [true] K8_11
noncomputable def K8_15 : List Item := adv 2 [] (popK K8_14)
set_option maxRecDepth 20000 in
set_option maxHeartbeats 20000000 in
theorem decode12_any (a : Option Addr) (c : Nat) (l : List Int) (w : World) (hI : Ones (Value.int .u8) w a 12 l) (hq : ∀ y ∈ l, 0 ≤ y ∧ y ≤ 255) (hcap : 12 ≤ c) : Ret Tryd.prog 8 #[.slice a 12 c] w (fun v w' => v = .tuple #[.agg #[.int .i64 (decR l).gOp, .int .i64 (decR l).gA, .int .i64 (decR l).gB, .int .i64 (decR l).gC, .int .i64 (decR l).gK], .int .i64 (decE l)] ∧ Sep w [] w') := by
 have S0 := Sep.refl w
 refine Ret.named fun R hR => ?_
 refine Ret.of_J (N := 49) [(0, .slice a 12 c)] Tryd.func8 rfl rfl (Nat.le_of_ble_eq_true (by kernel_rfl)) (by kernel_rfl) ?_
 have hll := hI.len_eq
 have hl0 := getD_Q hq 0 (n := 0) (by omega)
 have hl1 := getD_Q hq 0 (n := 1) (by omega)
 have hl2 := getD_Q hq 0 (n := 2) (by omega)
 have hl3 := getD_Q hq 0 (n := 3) (by omega)
 refine J.run 2 K8_0 [(0, .slice a 12 c)] w (by kernel_rfl) ?_
 refine J.new S0 2 [.int .i64 0, .int .i64 0, .int .i64 0, .int .i64 0, .int .i64 0] 23 (by kernel_rfl) ?_
 intro b1 w1 S1
 refine J.run 19 K8_1 [(12, .slice a 12 c), (4, .int .u64 0), (2, .pointer (some ⟨b1, 0, none⟩)), (0, .slice a 12 c)] w1 (by kernel_rfl) ?_
 refine J.ok (OK.slice 13 24 1 a 12 c (some (.int .i64 4)) none 4 12 (by kernel_rfl) (by kernel_rfl) (.inr ⟨_, _, rfl, rfl⟩) (.inl ⟨rfl, rfl⟩) (by first | omega | (simp; omega)) (by first | omega | (simp; omega))) ?_
 refine J.head (.slice (subA a c 4 1) 8 (c - 4)) rfl ?_
 refine J.run 5 K8_2 [(15, .int .i64 0), (14, .int .i64 8), (13, .slice (subA a c 4 1) 8 (c - 4)), (4, .int .u64 0), (2, .pointer (some ⟨b1, 0, none⟩)), (0, .slice a 12 c)] w1 (by kernel_rfl) ?_
 have L8_1 : ∀ (mm_ : Nat) (k : Int) (i : Int) (w2 : World), (0 ≤ i ∧ i ≤ 8) → (k = decN l (i).toNat) → Sep w [box b1 [.int .i64 0, .int .i64 0, .int .i64 0, .int .i64 0, .int .i64 0] 23] w2 → (12 - i).toNat = mm_ → J Tryd.prog 8 49 R K8_2 [(15, .int .i64 i), (14, .int .i64 8), (13, .slice (subA a c 4 1) 8 (c - 4)), (4, .int .u64 k), (2, .pointer (some ⟨b1, 0, none⟩)), (0, .slice a 12 c)] w2 := by
  intro mm1
  induction mm1 using Nat.strongRecOn with
  | _ mm1 ih1 =>
  intro k i w2 h0 hk S2 hm1
  have hk7 : i < 8 → 0 ≤ k ∧ k < 72057594037927936 := fun h_ => by rw [hk]; exact decN_seven hq (by omega)
  have hkf : ¬ i < 8 → k = decU l := fun h_ => by rw [hk, show (i).toNat = 8 by omega]; rfl
  refine J.run 5 K8_3 [(16, .bool (decide (i < 8))), (15, .int .i64 i), (14, .int .i64 8), (13, .slice (subA a c 4 1) 8 (c - 4)), (4, .int .u64 k), (2, .pointer (some ⟨b1, 0, none⟩)), (0, .slice a 12 c)] w2 (by kernel_rfl) ?_
  by_cases fk1 : i < 8
  ·skip
   refine J.head (.bool true) (congrArg Value.bool (decide_eq_true fk1)) ?_
   refine J.run 6 K8_4 [(15, .int .i64 i), (14, .int .i64 8), (13, .slice (subA a c 4 1) 8 (c - 4)), (4, .int .u64 k), (2, .pointer (some ⟨b1, 0, none⟩)), (0, .slice a 12 c)] w2 (by kernel_rfl) ?_
   obtain ⟨p1, hp1, hc1⟩ := (ones_drop hI c 4 (by omega) (by omega)).at 0 (i).toNat (by omega)
   have hel1 := getD_Q (fun y (hy : y ∈ l.drop 4) => hq y (List.mem_of_mem_drop hy)) 0 (n := (i).toNat) (by have := (ones_drop hI c 4 (by omega) (by omega)).len_eq; omega)
   refine J.ok (OK.index 17 24 1 (subA a c 4 1) p1 8 (i).toNat i (p1.add (i).toNat) (by kernel_rfl) (by kernel_rfl) hp1 (by omega) (by omega) (by rw [Nat.mul_one])) ?_
   refine J.ok (OK.ldCell 18 5 (p1.add (i).toNat) (.int .u8 ((l.drop 4).getD (i).toNat 0)) (by kernel_rfl) (by kernel_rfl) (S2.cell hc1)) ?_
   refine J.run 5 K8_5 [(20, .int .u64 (IntKind.wrap .u64 (k * 2 ^ 8))), (6, .int .u8 ((l.drop 4).getD (i).toNat 0)), (15, .int .i64 i), (14, .int .i64 8), (13, .slice (subA a c 4 1) 8 (c - 4)), (2, .pointer (some ⟨b1, 0, none⟩)), (0, .slice a 12 c)] w2 (by kernel_rfl) ?_
   refine J.head (.int .u64 (k * 256)) (congrArg (Value.int .u64) (IntWalk.u64_in _ (by omega))) ?_
   refine J.run 2 K8_6 [(22, .int .u64 (IntKind.wrap .u64 ((l.drop 4).getD (i).toNat 0))), (20, .int .u64 (k * 256)), (15, .int .i64 i), (14, .int .i64 8), (13, .slice (subA a c 4 1) 8 (c - 4)), (2, .pointer (some ⟨b1, 0, none⟩)), (0, .slice a 12 c)] w2 (by kernel_rfl) ?_
   refine J.head (.int .u64 ((l.drop 4).getD (i).toNat 0)) (congrArg (Value.int .u64) (IntWalk.u64_in _ (by omega))) ?_
   refine J.run 1 K8_7 [(23, .int .u64 (IntKind.wrap .u64 ((BitVec.ofInt 64 (k * 256) ||| (BitVec.ofInt 64 ((l.drop 4).getD (i).toNat 0))).toNat : Int))), (15, .int .i64 i), (14, .int .i64 8), (13, .slice (subA a c 4 1) 8 (c - 4)), (2, .pointer (some ⟨b1, 0, none⟩)), (0, .slice a 12 c)] w2 (by kernel_rfl) ?_
   refine J.head (.int .u64 ((k * 256) + ((l.drop 4).getD (i).toNat 0))) (congrArg (Value.int .u64) (or_byte (by omega) (by omega))) ?_
   refine J.run 5 K8_8 [(24, .int .i64 (IntKind.wrap .i64 (i + 1))), (4, .int .u64 ((k * 256) + ((l.drop 4).getD (i).toNat 0))), (14, .int .i64 8), (13, .slice (subA a c 4 1) 8 (c - 4)), (2, .pointer (some ⟨b1, 0, none⟩)), (0, .slice a 12 c)] w2 (by kernel_rfl) ?_
   refine J.head (.int .i64 (i + 1)) (congrArg (Value.int .i64) (IntWalk.i64_in _ (by omega))) ?_
   refine J.run 3 K8_2 [(15, .int .i64 (i + 1)), (4, .int .u64 ((k * 256) + ((l.drop 4).getD (i).toNat 0))), (14, .int .i64 8), (13, .slice (subA a c 4 1) 8 (c - 4)), (2, .pointer (some ⟨b1, 0, none⟩)), (0, .slice a 12 c)] w2 (by kernel_rfl) ?_
   refine J.run 0 K8_2 [(15, .int .i64 (i + 1)), (14, .int .i64 8), (13, .slice (subA a c 4 1) 8 (c - 4)), (4, .int .u64 ((k * 256) + ((l.drop 4).getD (i).toNat 0))), (2, .pointer (some ⟨b1, 0, none⟩)), (0, .slice a 12 c)] w2 (by kernel_rfl) ?_
   exact ih1 _ (show (12 - (i + 1)).toNat < mm1 from by omega) ((k * 256) + ((l.drop 4).getD (i).toNat 0)) (i + 1) w2 (by omega) (by rw [show (i + 1).toNat = (i).toNat + 1 by omega, decN, ← hk, List.getD_eq_getElem?_getD, List.getD_eq_getElem?_getD, List.getElem?_drop]) S2 rfl
  ·skip
   refine J.head (.bool false) (congrArg Value.bool (decide_eq_false fk1)) ?_
   refine J.run 3 K8_9 [(4, .int .u64 k), (2, .pointer (some ⟨b1, 0, none⟩)), (0, .slice a 12 c)] w2 (by kernel_rfl) ?_
   obtain ⟨p2, hp2, hc2⟩ := hI.at 0 0 (by omega)
   have hel2 := getD_Q hq 0 (n := 0) (by have := hI.len_eq; omega)
   obtain ⟨p3, hp3, hc3⟩ := hI.at 0 1 (by omega)
   have hel3 := getD_Q hq 0 (n := 1) (by have := hI.len_eq; omega)
   obtain ⟨p4, hp4, hc4⟩ := hI.at 0 2 (by omega)
   have hel4 := getD_Q hq 0 (n := 2) (by have := hI.len_eq; omega)
   obtain ⟨p5, hp5, hc5⟩ := hI.at 0 3 (by omega)
   have hel5 := getD_Q hq 0 (n := 3) (by have := hI.len_eq; omega)
   refine J.drawPlan (fun w_ => Sep w [box b1 [.int .i64 0, .int .i64 0, .int .i64 0, .int .i64 0, .int .i64 0] 23] w_) [(0, true), (1, true), (2, true), (3, true), (4, true), (5, true), (6, true), (7, true), (8, true), (9, true), (10, true), (11, true), (12, true), (13, true), (14, true), (15, true), (16, true), (17, true), (18, true), (19, false), (20, false)] S2 Tryd.mixed (by kernel_rfl) (planOK_of (T := [(0, some 25, 1), (1, some 26, 33554432), (2, some 27, 67108864), (4, some 28, 134217728), (0, some 29, 1), (16, some 30, 536870912), (32, some 31, 1073741824), (64, some 32, 2147483648), (0, some 33, 1), (256, some 34, 8589934592), (512, some 35, 17179869184), (1024, some 36, 34359738368), (0, some 37, 1), (4096, some 38, 137438953472), (8192, some 39, 274877906944), (16384, some 40, 549755813888), (0, some 41, 16), (65536, some 42, 2199023255552), (166024, some 43, 5570841018368), (0, some 7, 0), (1048575, none, 8796093022336)]) (by kernel_rfl) (by kernel_rfl)) ?_
   intro w3 S3
   refine PB.mk S3 ?_
   refine PL.take 0 25 (.slice a 12 c) (fun _ _ => by kernel_rfl) ?_
   refine PL.takeOK 1 (fun w_ S_ => OK.index 26 24 1 a p2 12 0 0 (p2.add 0) (by kernel_rfl) (by kernel_rfl) hp2 (by omega) (by omega) (by rw [Nat.mul_one])) rfl ?_
   refine PL.takeOK 2 (fun w_ S_ => OK.ldCell 27 5 (p2.add 0) (.int .u8 (l.getD 0 0)) (by kernel_rfl) (by kernel_rfl) (S_.cell hc2)) rfl ?_
   refine PL.take 3 28 (.int .i64 (IntKind.wrap .i64 (l.getD 0 0))) (fun _ _ => by kernel_rfl) ?_
   refine PL.head (.int .i64 (l.getD 0 0)) (congrArg (Value.int .i64) (IntWalk.i64_in _ (by omega))) ?_
   refine PL.take 4 29 (.slice a 12 c) (fun _ _ => by kernel_rfl) ?_
   refine PL.takeOK 5 (fun w_ S_ => OK.index 30 24 1 a p3 12 1 1 (p3.add 1) (by kernel_rfl) (by kernel_rfl) hp3 (by omega) (by omega) (by rw [Nat.mul_one])) rfl ?_
   refine PL.takeOK 6 (fun w_ S_ => OK.ldCell 31 5 (p3.add 1) (.int .u8 (l.getD 1 0)) (by kernel_rfl) (by kernel_rfl) (S_.cell hc3)) rfl ?_
   refine PL.take 7 32 (.int .i64 (IntKind.wrap .i64 (l.getD 1 0))) (fun _ _ => by kernel_rfl) ?_
   refine PL.head (.int .i64 (l.getD 1 0)) (congrArg (Value.int .i64) (IntWalk.i64_in _ (by omega))) ?_
   refine PL.take 8 33 (.slice a 12 c) (fun _ _ => by kernel_rfl) ?_
   refine PL.takeOK 9 (fun w_ S_ => OK.index 34 24 1 a p4 12 2 2 (p4.add 2) (by kernel_rfl) (by kernel_rfl) hp4 (by omega) (by omega) (by rw [Nat.mul_one])) rfl ?_
   refine PL.takeOK 10 (fun w_ S_ => OK.ldCell 35 5 (p4.add 2) (.int .u8 (l.getD 2 0)) (by kernel_rfl) (by kernel_rfl) (S_.cell hc4)) rfl ?_
   refine PL.take 11 36 (.int .i64 (IntKind.wrap .i64 (l.getD 2 0))) (fun _ _ => by kernel_rfl) ?_
   refine PL.head (.int .i64 (l.getD 2 0)) (congrArg (Value.int .i64) (IntWalk.i64_in _ (by omega))) ?_
   refine PL.take 12 37 (.slice a 12 c) (fun _ _ => by kernel_rfl) ?_
   refine PL.takeOK 13 (fun w_ S_ => OK.index 38 24 1 a p5 12 3 3 (p5.add 3) (by kernel_rfl) (by kernel_rfl) hp5 (by omega) (by omega) (by rw [Nat.mul_one])) rfl ?_
   refine PL.takeOK 14 (fun w_ S_ => OK.ldCell 39 5 (p5.add 3) (.int .u8 (l.getD 3 0)) (by kernel_rfl) (by kernel_rfl) (S_.cell hc5)) rfl ?_
   refine PL.take 15 40 (.int .i64 (IntKind.wrap .i64 (l.getD 3 0))) (fun _ _ => by kernel_rfl) ?_
   refine PL.head (.int .i64 (l.getD 3 0)) (congrArg (Value.int .i64) (IntWalk.i64_in _ (by omega))) ?_
   refine PL.take 16 41 (.int .u64 k) (fun _ _ => by kernel_rfl) ?_
   refine PL.take 17 42 (.int .i64 (IntKind.wrap .i64 k)) (fun _ _ => by kernel_rfl) ?_
   refine PL.head (.int .i64 (decK (decU l))) (congrArg (Value.int .i64) (by rw [hkf (by omega)]; exact wrap_decK (decN_eight hq))) ?_
   refine PL.take 18 43 (.agg #[.int .i64 (l.getD 0 0), .int .i64 (l.getD 1 0), .int .i64 (l.getD 2 0), .int .i64 (l.getD 3 0), .int .i64 (decK (decU l))]) (fun _ _ => by kernel_rfl) ?_
   refine PL.new S3 7 [.int .i64 0, .int .i64 0, .int .i64 0, .int .i64 0, .int .i64 0] 23 (by kernel_rfl) ?_
   intro b2 w4 S4
   refine PB.mk (S4.erase 0) ?_
   refine PL.stBox S4 0 23 0 (.agg #[.int .i64 (l.getD 0 0), .int .i64 (l.getD 1 0), .int .i64 (l.getD 2 0), .int .i64 (l.getD 3 0), .int .i64 (decK (decU l))]) [.int .i64 (l.getD 0 0), .int .i64 (l.getD 1 0), .int .i64 (l.getD 2 0), .int .i64 (l.getD 3 0), .int .i64 (decK (decU l))] [box b2 [.int .i64 (l.getD 0 0), .int .i64 (l.getD 1 0), .int .i64 (l.getD 2 0), .int .i64 (l.getD 3 0), .int .i64 (decK (decU l))] 23, box b1 [.int .i64 0, .int .i64 0, .int .i64 0, .int .i64 0, .int .i64 0] 23] (by kernel_rfl) rfl (by kernel_rfl) (by kernel_rfl) rfl ?_
   intro w5 S5
   refine PB.mk (S5.erase 0) ?_
   refine PL.done ?_
   refine J.run 0 (rRest K8_9) [(7, .pointer (some ⟨b2, 0, none⟩)), (2, .pointer (some ⟨b1, 0, none⟩))] w5 (by kernel_rfl) ?_
   refine J.run 3 K8_10 [(7, .pointer (some ⟨b2, 0, none⟩)), (2, .pointer (some ⟨b1, 0, none⟩))] w5 (by kernel_rfl) ?_
   refine J.ok (OK.ldBox S5 0 44 23 0 (.agg #[.int .i64 (l.getD 0 0), .int .i64 (l.getD 1 0), .int .i64 (l.getD 2 0), .int .i64 (l.getD 3 0), .int .i64 (decK (decU l))]) (by kernel_rfl) rfl (by kernel_rfl)) ?_
   have hqi : insQ w5 (decI l) := ⟨by show _ ≤ l.getD 0 0 ∧ l.getD 0 0 ≤ _; omega, by show _ ≤ l.getD 1 0 ∧ l.getD 1 0 ≤ _; omega, by show _ ≤ l.getD 2 0 ∧ l.getD 2 0 ≤ _; omega, by show _ ≤ l.getD 3 0 ∧ l.getD 3 0 ≤ _; omega, decK_bd (decN_eight hq), trivial⟩
   refine J.callF 45 15 #[.agg #[.int .i64 (l.getD 0 0), .int .i64 (l.getD 1 0), .int .i64 (l.getD 2 0), .int .i64 (l.getD 3 0), .int .i64 (decK (decU l))]] hb15 (by kernel_rfl) (formed_any (decI l) _ hqi) ?_
   rintro _ w6 ⟨rfl, T1⟩
   have S6 : Sep w [box b2 [.int .i64 (l.getD 0 0), .int .i64 (l.getD 1 0), .int .i64 (l.getD 2 0), .int .i64 (l.getD 3 0), .int .i64 (decK (decU l))] 23, box b1 [.int .i64 0, .int .i64 0, .int .i64 0, .int .i64 0, .int .i64 0] 23] w6 := S5.trans T1
   clear T1 S5
   refine J.run 2 K8_11 [(46, .bool (!(formB (decI l)))), (7, .pointer (some ⟨b2, 0, none⟩)), (2, .pointer (some ⟨b1, 0, none⟩))] w6 (by kernel_rfl) ?_
   rcases Bool.eq_false_or_eq_true (formB (decI l)) with fk2 | fk2
   ·skip
    refine J.head (.bool false) (congrArg Value.bool (by rw [fk2]; rfl)) ?_
    refine J.run 4 K8_12 [(7, .pointer (some ⟨b2, 0, none⟩)), (2, .pointer (some ⟨b1, 0, none⟩))] w6 (by kernel_rfl) ?_
    refine J.ok (OK.ldBox S6 0 48 23 0 (.agg #[.int .i64 (l.getD 0 0), .int .i64 (l.getD 1 0), .int .i64 (l.getD 2 0), .int .i64 (l.getD 3 0), .int .i64 (decK (decU l))]) (by kernel_rfl) rfl (by kernel_rfl)) ?_
    refine J.stBox S6 1 23 0 (.agg #[.int .i64 (l.getD 0 0), .int .i64 (l.getD 1 0), .int .i64 (l.getD 2 0), .int .i64 (l.getD 3 0), .int .i64 (decK (decU l))]) [.int .i64 (l.getD 0 0), .int .i64 (l.getD 1 0), .int .i64 (l.getD 2 0), .int .i64 (l.getD 3 0), .int .i64 (decK (decU l))] [box b2 [.int .i64 (l.getD 0 0), .int .i64 (l.getD 1 0), .int .i64 (l.getD 2 0), .int .i64 (l.getD 3 0), .int .i64 (decK (decU l))] 23, box b1 [.int .i64 (l.getD 0 0), .int .i64 (l.getD 1 0), .int .i64 (l.getD 2 0), .int .i64 (l.getD 3 0), .int .i64 (decK (decU l))] 23] (by kernel_rfl) rfl (by kernel_rfl) (by kernel_rfl) rfl ?_
    intro w7 S7
    refine J.run 2 K8_13 [(3, .int .i64 0), (2, .pointer (some ⟨b1, 0, none⟩))] w7 (by kernel_rfl) ?_
    refine J.ret Tryd.f8 [.agg #[.int .i64 (l.getD 0 0), .int .i64 (l.getD 1 0), .int .i64 (l.getD 2 0), .int .i64 (l.getD 3 0), .int .i64 (decK (decU l))], .int .i64 0] Tryd.func8 ⟨⟨⟨b1, 0, none⟩, by kernel_rfl, ldV_run (S7.nth 1 rfl) (by kernel_rfl)⟩, by kernel_rfl, trivial⟩ ?_
    refine hR _ _ ?_
    obtain ⟨e1, e2, e3⟩ := dec_yes (l := l) (by omega) fk2
    exact ⟨by rw [e1, e2]; rfl, S7.nil⟩
   ·skip
    refine J.head (.bool true) (congrArg Value.bool (by rw [fk2]; rfl)) ?_
    refine J.run 4 K8_14 [(47, .agg #[.int .i64 0, .int .i64 0, .int .i64 0, .int .i64 0, .int .i64 0]), (2, .pointer (some ⟨b1, 0, none⟩))] w6 (by kernel_rfl) ?_
    refine J.stBox S6 1 23 0 (.agg #[.int .i64 0, .int .i64 0, .int .i64 0, .int .i64 0, .int .i64 0]) [.int .i64 0, .int .i64 0, .int .i64 0, .int .i64 0, .int .i64 0] [box b2 [.int .i64 (l.getD 0 0), .int .i64 (l.getD 1 0), .int .i64 (l.getD 2 0), .int .i64 (l.getD 3 0), .int .i64 (decK (decU l))] 23, box b1 [.int .i64 0, .int .i64 0, .int .i64 0, .int .i64 0, .int .i64 0] 23] (by kernel_rfl) rfl (by kernel_rfl) (by kernel_rfl) rfl ?_
    intro w8 S8
    refine J.run 2 K8_15 [(3, .int .i64 3), (2, .pointer (some ⟨b1, 0, none⟩))] w8 (by kernel_rfl) ?_
    refine J.ret Tryd.f8 [.agg #[.int .i64 0, .int .i64 0, .int .i64 0, .int .i64 0, .int .i64 0], .int .i64 3] Tryd.func8 ⟨⟨⟨b1, 0, none⟩, by kernel_rfl, ldV_run (S8.nth 1 rfl) (by kernel_rfl)⟩, by kernel_rfl, trivial⟩ ?_
    refine hR _ _ ?_
    obtain ⟨e1, e2, e3⟩ := dec_no (l := l) (.inr fk2)
    exact ⟨by rw [e1, e2]; rfl, S8.nil⟩
 exact L8_1 _ 0 0 w1 (by omega) (rfl) S1 rfl

noncomputable def K8a_0 : List Item := adv 2 [] (bodyOf Tryd.f8)
noncomputable def K8a_1 : List Item := adv 9 [] (popK K8a_0)
noncomputable def K8a_2 : List Item := adv 4 [true] K8a_1
noncomputable def K8a_3 : List Item := adv 2 [] (popK K8a_2)
set_option maxRecDepth 20000 in
set_option maxHeartbeats 20000000 in
theorem decodeno_any (a : Option Addr) (n c : Nat) (l : List Int) (w : World) (hn : n ≠ 12) (hll : l.length = n) : Ret Tryd.prog 8 #[.slice a n c] w (fun v w' => v = .tuple #[.agg #[.int .i64 (decR l).gOp, .int .i64 (decR l).gA, .int .i64 (decR l).gB, .int .i64 (decR l).gC, .int .i64 (decR l).gK], .int .i64 (decE l)] ∧ Sep w [] w') := by
 have S0 := Sep.refl w
 refine Ret.named fun R hR => ?_
 refine Ret.of_J (N := 49) [(0, .slice a n c)] Tryd.func8 rfl rfl (Nat.le_of_ble_eq_true (by kernel_rfl)) (by kernel_rfl) ?_
 refine J.run 2 K8a_0 [(0, .slice a n c)] w (by kernel_rfl) ?_
 refine J.new S0 2 [.int .i64 0, .int .i64 0, .int .i64 0, .int .i64 0, .int .i64 0] 23 (by kernel_rfl) ?_
 intro b1 w1 S1
 refine J.run 9 K8a_1 [(10, .bool ((n : Int) != 12)), (2, .pointer (some ⟨b1, 0, none⟩)), (0, .slice a n c)] w1 (by kernel_rfl) ?_
 have fk2 : ¬ ((n : Int) = 12) := by omega
 refine J.head (.bool true) (congrArg Value.bool (bne_iff_ne.2 fk2)) ?_
 refine J.run 4 K8a_2 [(11, .agg #[.int .i64 0, .int .i64 0, .int .i64 0, .int .i64 0, .int .i64 0]), (2, .pointer (some ⟨b1, 0, none⟩))] w1 (by kernel_rfl) ?_
 refine J.stBox S1 0 23 0 (.agg #[.int .i64 0, .int .i64 0, .int .i64 0, .int .i64 0, .int .i64 0]) [.int .i64 0, .int .i64 0, .int .i64 0, .int .i64 0, .int .i64 0] [box b1 [.int .i64 0, .int .i64 0, .int .i64 0, .int .i64 0, .int .i64 0] 23] (by kernel_rfl) rfl (by kernel_rfl) (by kernel_rfl) rfl ?_
 intro w2 S2
 refine J.run 2 K8a_3 [(3, .int .i64 3), (2, .pointer (some ⟨b1, 0, none⟩))] w2 (by kernel_rfl) ?_
 refine J.ret Tryd.f8 [.agg #[.int .i64 0, .int .i64 0, .int .i64 0, .int .i64 0, .int .i64 0], .int .i64 3] Tryd.func8 ⟨⟨⟨b1, 0, none⟩, by kernel_rfl, ldV_run (S2.nth 0 rfl) (by kernel_rfl)⟩, by kernel_rfl, trivial⟩ ?_
 refine hR _ _ ?_
 obtain ⟨e1, e2, e3⟩ := dec_no (l := l) (.inl (by omega))
 exact ⟨by rw [e1, e2]; rfl, S2.nil⟩

theorem decode_any (a : Option Addr) (n c : Nat) (l : List Int) (w : World) (hI : Ones (Value.int .u8) w a n l) (hq : ∀ y ∈ l, 0 ≤ y ∧ y ≤ 255) (hcap : n ≤ c) : Ret Tryd.prog 8 #[.slice a n c] w (fun v w' => v = .tuple #[.agg #[.int .i64 (decR l).gOp, .int .i64 (decR l).gA, .int .i64 (decR l).gB, .int .i64 (decR l).gC, .int .i64 (decR l).gK], .int .i64 (decE l)] ∧ Sep w [] w') := by
  by_cases h : n = 12
  · subst h; exact decode12_any a c l w hI hq hcap
  · exact decodeno_any a n c l w h hI.len_eq
theorem hb13 : HasBody Tryd.prog 13 := fun _ _ => by kernel_rfl
noncomputable def K13_0 : List Item := adv 2 [] (bodyOf Tryd.f13)
noncomputable def K13_1 : List Item := adv 22 [false] (popK K13_0)
noncomputable def K13_2 : List Item := adv 6 [] K13_1
noncomputable def K13_3 : List Item := adv 7 [true] K13_2
noncomputable def K13_4 : List Item := adv 2 [] K13_3
noncomputable def K13_5 : List Item := adv 1 [] (popK (popK K13_4))
noncomputable def K13_6 : List Item := adv 1 [] K13_5
noncomputable def K13_7 : List Item := adv 6 [] K13_6
noncomputable def K13_8 : List Item := adv 3 [false] K13_2
noncomputable def K13_9 : List Item := adv 3 [] (rRest K13_8)
noncomputable def K13_10 : List Item := adv 2 [] (popK (popK K13_9))
noncomputable def K13_11 : List Item := adv 4 [false] K13_10
noncomputable def K13_12 : List Item := adv 2 [] (popK (popK K13_11))
noncomputable def K13_13 : List Item := adv 4 [true] K13_10
noncomputable def K13_14 : List Item := adv 2 [] (popK K13_13)
set_option maxRecDepth 20000 in
set_option maxHeartbeats 20000000 in
theorem rdecode12_any (a : Option Addr) (c : Nat) (l : List Int) (w : World) (hI : Ones (Value.int .u8) w a 12 l) (hq : ∀ y ∈ l, 0 ≤ y ∧ y ≤ 255) (hcap : 12 ≤ c) : Ret Tryd.prog 13 #[.slice a 12 c] w (fun v w' => v = .tuple #[.agg #[.int .i64 (decR l).gOp, .int .i64 (decR l).gA, .int .i64 (decR l).gB, .int .i64 (decR l).gC, .int .i64 (decR l).gK], .bool (decB l)] ∧ Sep w [] w') := by
 have S0 := Sep.refl w
 refine Ret.named fun R hR => ?_
 refine Ret.of_J (N := 47) [(0, .slice a 12 c)] Tryd.func13 rfl rfl (Nat.le_of_ble_eq_true (by kernel_rfl)) (by kernel_rfl) ?_
 have hll := hI.len_eq
 have hl0 := getD_Q hq 0 (n := 0) (by omega)
 have hl1 := getD_Q hq 0 (n := 1) (by omega)
 have hl2 := getD_Q hq 0 (n := 2) (by omega)
 have hl3 := getD_Q hq 0 (n := 3) (by omega)
 refine J.run 2 K13_0 [(0, .slice a 12 c)] w (by kernel_rfl) ?_
 refine J.new S0 2 [.int .i64 0, .int .i64 0, .int .i64 0, .int .i64 0, .int .i64 0] 23 (by kernel_rfl) ?_
 intro b1 w1 S1
 refine J.run 22 K13_1 [(5, .int .i64 4), (4, .int .u64 0), (2, .pointer (some ⟨b1, 0, none⟩)), (0, .slice a 12 c)] w1 (by kernel_rfl) ?_
 have L13_1 : ∀ (mm_ : Nat) (k : Int) (i : Int) (w2 : World), (4 ≤ i ∧ i ≤ 12) → (k = decN l (i - 4).toNat) → Sep w [box b1 [.int .i64 0, .int .i64 0, .int .i64 0, .int .i64 0, .int .i64 0] 23] w2 → (12 - i).toNat = mm_ → J Tryd.prog 13 47 R K13_1 [(5, .int .i64 i), (4, .int .u64 k), (2, .pointer (some ⟨b1, 0, none⟩)), (0, .slice a 12 c)] w2 := by
  intro mm1
  induction mm1 using Nat.strongRecOn with
  | _ mm1 ih1 =>
  intro k i w2 h0 hk S2 hm1
  have hk7 : i < 12 → 0 ≤ k ∧ k < 72057594037927936 := fun h_ => by rw [hk]; exact decN_seven hq (by omega)
  have hkf : ¬ i < 12 → k = decU l := fun h_ => by rw [hk, show (i - 4).toNat = 8 by omega]; rfl
  refine J.run 6 K13_2 [(12, .bool (decide (i < 12))), (5, .int .i64 i), (4, .int .u64 k), (2, .pointer (some ⟨b1, 0, none⟩)), (0, .slice a 12 c)] w2 (by kernel_rfl) ?_
  by_cases fk1 : i < 12
  ·skip
   refine J.head (.bool true) (congrArg Value.bool (decide_eq_true fk1)) ?_
   refine J.run 7 K13_3 [(16, .int .u64 (IntKind.wrap .u64 (k * 2 ^ 8))), (5, .int .i64 i), (2, .pointer (some ⟨b1, 0, none⟩)), (0, .slice a 12 c)] w2 (by kernel_rfl) ?_
   refine J.head (.int .u64 (k * 256)) (congrArg (Value.int .u64) (IntWalk.u64_in _ (by omega))) ?_
   refine J.run 2 K13_4 [(18, .int .i64 i), (17, .slice a 12 c), (16, .int .u64 (k * 256)), (5, .int .i64 i), (2, .pointer (some ⟨b1, 0, none⟩)), (0, .slice a 12 c)] w2 (by kernel_rfl) ?_
   obtain ⟨p1, hp1, hc1⟩ := hI.at 0 (i).toNat (by omega)
   have hel1 := getD_Q hq 0 (n := (i).toNat) (by have := hI.len_eq; omega)
   refine J.ok (OK.index 19 24 1 a p1 12 (i).toNat i (p1.add (i).toNat) (by kernel_rfl) (by kernel_rfl) hp1 (by omega) (by omega) (by rw [Nat.mul_one])) ?_
   refine J.ok (OK.ldCell 20 5 (p1.add (i).toNat) (.int .u8 (l.getD (i).toNat 0)) (by kernel_rfl) (by kernel_rfl) (S2.cell hc1)) ?_
   refine J.run 1 K13_5 [(21, .int .u64 (IntKind.wrap .u64 (l.getD (i).toNat 0))), (16, .int .u64 (k * 256)), (5, .int .i64 i), (2, .pointer (some ⟨b1, 0, none⟩)), (0, .slice a 12 c)] w2 (by kernel_rfl) ?_
   refine J.head (.int .u64 (l.getD (i).toNat 0)) (congrArg (Value.int .u64) (IntWalk.u64_in _ (by omega))) ?_
   refine J.run 1 K13_6 [(22, .int .u64 (IntKind.wrap .u64 ((BitVec.ofInt 64 (k * 256) ||| (BitVec.ofInt 64 (l.getD (i).toNat 0))).toNat : Int))), (5, .int .i64 i), (2, .pointer (some ⟨b1, 0, none⟩)), (0, .slice a 12 c)] w2 (by kernel_rfl) ?_
   refine J.head (.int .u64 ((k * 256) + (l.getD (i).toNat 0))) (congrArg (Value.int .u64) (or_byte (by omega) (by omega))) ?_
   refine J.run 6 K13_7 [(14, .int .i64 (IntKind.wrap .i64 (i + 1))), (4, .int .u64 ((k * 256) + (l.getD (i).toNat 0))), (2, .pointer (some ⟨b1, 0, none⟩)), (0, .slice a 12 c)] w2 (by kernel_rfl) ?_
   refine J.head (.int .i64 (i + 1)) (congrArg (Value.int .i64) (IntWalk.i64_in _ (by omega))) ?_
   refine J.run 3 K13_1 [(5, .int .i64 (i + 1)), (4, .int .u64 ((k * 256) + (l.getD (i).toNat 0))), (2, .pointer (some ⟨b1, 0, none⟩)), (0, .slice a 12 c)] w2 (by kernel_rfl) ?_
   refine J.run 0 K13_1 [(5, .int .i64 (i + 1)), (4, .int .u64 ((k * 256) + (l.getD (i).toNat 0))), (2, .pointer (some ⟨b1, 0, none⟩)), (0, .slice a 12 c)] w2 (by kernel_rfl) ?_
   exact ih1 _ (show (12 - (i + 1)).toNat < mm1 from by omega) ((k * 256) + (l.getD (i).toNat 0)) (i + 1) w2 (by omega) (by rw [show (i + 1 - 4).toNat = (i - 4).toNat + 1 by omega, decN, ← hk, show 4 + (i - 4).toNat = i.toNat by omega]) S2 rfl
  ·skip
   refine J.head (.bool false) (congrArg Value.bool (decide_eq_false fk1)) ?_
   refine J.run 3 K13_8 [(4, .int .u64 k), (2, .pointer (some ⟨b1, 0, none⟩)), (0, .slice a 12 c)] w2 (by kernel_rfl) ?_
   obtain ⟨p2, hp2, hc2⟩ := hI.at 0 0 (by omega)
   have hel2 := getD_Q hq 0 (n := 0) (by have := hI.len_eq; omega)
   obtain ⟨p3, hp3, hc3⟩ := hI.at 0 1 (by omega)
   have hel3 := getD_Q hq 0 (n := 1) (by have := hI.len_eq; omega)
   obtain ⟨p4, hp4, hc4⟩ := hI.at 0 2 (by omega)
   have hel4 := getD_Q hq 0 (n := 2) (by have := hI.len_eq; omega)
   obtain ⟨p5, hp5, hc5⟩ := hI.at 0 3 (by omega)
   have hel5 := getD_Q hq 0 (n := 3) (by have := hI.len_eq; omega)
   refine J.drawPlan (fun w_ => Sep w [box b1 [.int .i64 0, .int .i64 0, .int .i64 0, .int .i64 0, .int .i64 0] 23] w_) [(0, true), (1, true), (2, true), (3, true), (4, true), (5, true), (6, true), (7, true), (8, true), (9, true), (10, true), (11, true), (12, true), (13, true), (14, true), (15, true), (16, true), (17, true), (18, true), (19, false), (20, false)] S2 Tryd.mixed (by kernel_rfl) (planOK_of (T := [(0, some 23, 1), (1, some 24, 8388608), (2, some 25, 16777216), (4, some 26, 33554432), (0, some 27, 1), (16, some 28, 134217728), (32, some 29, 268435456), (64, some 30, 536870912), (0, some 31, 1), (256, some 32, 2147483648), (512, some 33, 4294967296), (1024, some 34, 8589934592), (0, some 35, 1), (4096, some 36, 34359738368), (8192, some 37, 68719476736), (16384, some 38, 137438953472), (0, some 39, 16), (65536, some 40, 549755813888), (166024, some 41, 1392710254592), (0, some 6, 0), (1048575, none, 2199023255616)]) (by kernel_rfl) (by kernel_rfl)) ?_
   intro w3 S3
   refine PB.mk S3 ?_
   refine PL.take 0 23 (.slice a 12 c) (fun _ _ => by kernel_rfl) ?_
   refine PL.takeOK 1 (fun w_ S_ => OK.index 24 24 1 a p2 12 0 0 (p2.add 0) (by kernel_rfl) (by kernel_rfl) hp2 (by omega) (by omega) (by rw [Nat.mul_one])) rfl ?_
   refine PL.takeOK 2 (fun w_ S_ => OK.ldCell 25 5 (p2.add 0) (.int .u8 (l.getD 0 0)) (by kernel_rfl) (by kernel_rfl) (S_.cell hc2)) rfl ?_
   refine PL.take 3 26 (.int .i64 (IntKind.wrap .i64 (l.getD 0 0))) (fun _ _ => by kernel_rfl) ?_
   refine PL.head (.int .i64 (l.getD 0 0)) (congrArg (Value.int .i64) (IntWalk.i64_in _ (by omega))) ?_
   refine PL.take 4 27 (.slice a 12 c) (fun _ _ => by kernel_rfl) ?_
   refine PL.takeOK 5 (fun w_ S_ => OK.index 28 24 1 a p3 12 1 1 (p3.add 1) (by kernel_rfl) (by kernel_rfl) hp3 (by omega) (by omega) (by rw [Nat.mul_one])) rfl ?_
   refine PL.takeOK 6 (fun w_ S_ => OK.ldCell 29 5 (p3.add 1) (.int .u8 (l.getD 1 0)) (by kernel_rfl) (by kernel_rfl) (S_.cell hc3)) rfl ?_
   refine PL.take 7 30 (.int .i64 (IntKind.wrap .i64 (l.getD 1 0))) (fun _ _ => by kernel_rfl) ?_
   refine PL.head (.int .i64 (l.getD 1 0)) (congrArg (Value.int .i64) (IntWalk.i64_in _ (by omega))) ?_
   refine PL.take 8 31 (.slice a 12 c) (fun _ _ => by kernel_rfl) ?_
   refine PL.takeOK 9 (fun w_ S_ => OK.index 32 24 1 a p4 12 2 2 (p4.add 2) (by kernel_rfl) (by kernel_rfl) hp4 (by omega) (by omega) (by rw [Nat.mul_one])) rfl ?_
   refine PL.takeOK 10 (fun w_ S_ => OK.ldCell 33 5 (p4.add 2) (.int .u8 (l.getD 2 0)) (by kernel_rfl) (by kernel_rfl) (S_.cell hc4)) rfl ?_
   refine PL.take 11 34 (.int .i64 (IntKind.wrap .i64 (l.getD 2 0))) (fun _ _ => by kernel_rfl) ?_
   refine PL.head (.int .i64 (l.getD 2 0)) (congrArg (Value.int .i64) (IntWalk.i64_in _ (by omega))) ?_
   refine PL.take 12 35 (.slice a 12 c) (fun _ _ => by kernel_rfl) ?_
   refine PL.takeOK 13 (fun w_ S_ => OK.index 36 24 1 a p5 12 3 3 (p5.add 3) (by kernel_rfl) (by kernel_rfl) hp5 (by omega) (by omega) (by rw [Nat.mul_one])) rfl ?_
   refine PL.takeOK 14 (fun w_ S_ => OK.ldCell 37 5 (p5.add 3) (.int .u8 (l.getD 3 0)) (by kernel_rfl) (by kernel_rfl) (S_.cell hc5)) rfl ?_
   refine PL.take 15 38 (.int .i64 (IntKind.wrap .i64 (l.getD 3 0))) (fun _ _ => by kernel_rfl) ?_
   refine PL.head (.int .i64 (l.getD 3 0)) (congrArg (Value.int .i64) (IntWalk.i64_in _ (by omega))) ?_
   refine PL.take 16 39 (.int .u64 k) (fun _ _ => by kernel_rfl) ?_
   refine PL.take 17 40 (.int .i64 (IntKind.wrap .i64 k)) (fun _ _ => by kernel_rfl) ?_
   refine PL.head (.int .i64 (decK (decU l))) (congrArg (Value.int .i64) (by rw [hkf (by omega)]; exact wrap_decK (decN_eight hq))) ?_
   refine PL.take 18 41 (.agg #[.int .i64 (l.getD 0 0), .int .i64 (l.getD 1 0), .int .i64 (l.getD 2 0), .int .i64 (l.getD 3 0), .int .i64 (decK (decU l))]) (fun _ _ => by kernel_rfl) ?_
   refine PL.new S3 6 [.int .i64 0, .int .i64 0, .int .i64 0, .int .i64 0, .int .i64 0] 23 (by kernel_rfl) ?_
   intro b2 w4 S4
   refine PB.mk (S4.erase 0) ?_
   refine PL.stBox S4 0 23 0 (.agg #[.int .i64 (l.getD 0 0), .int .i64 (l.getD 1 0), .int .i64 (l.getD 2 0), .int .i64 (l.getD 3 0), .int .i64 (decK (decU l))]) [.int .i64 (l.getD 0 0), .int .i64 (l.getD 1 0), .int .i64 (l.getD 2 0), .int .i64 (l.getD 3 0), .int .i64 (decK (decU l))] [box b2 [.int .i64 (l.getD 0 0), .int .i64 (l.getD 1 0), .int .i64 (l.getD 2 0), .int .i64 (l.getD 3 0), .int .i64 (decK (decU l))] 23, box b1 [.int .i64 0, .int .i64 0, .int .i64 0, .int .i64 0, .int .i64 0] 23] (by kernel_rfl) rfl (by kernel_rfl) (by kernel_rfl) rfl ?_
   intro w5 S5
   refine PB.mk (S5.erase 0) ?_
   refine PL.done ?_
   refine J.run 0 (rRest K13_8) [(6, .pointer (some ⟨b2, 0, none⟩)), (2, .pointer (some ⟨b1, 0, none⟩))] w5 (by kernel_rfl) ?_
   refine J.run 3 K13_9 [(6, .pointer (some ⟨b2, 0, none⟩)), (2, .pointer (some ⟨b1, 0, none⟩))] w5 (by kernel_rfl) ?_
   refine J.ok (OK.ldBox S5 0 42 23 0 (.agg #[.int .i64 (l.getD 0 0), .int .i64 (l.getD 1 0), .int .i64 (l.getD 2 0), .int .i64 (l.getD 3 0), .int .i64 (decK (decU l))]) (by kernel_rfl) rfl (by kernel_rfl)) ?_
   have hqi : insQ w5 (decI l) := ⟨by show _ ≤ l.getD 0 0 ∧ l.getD 0 0 ≤ _; omega, by show _ ≤ l.getD 1 0 ∧ l.getD 1 0 ≤ _; omega, by show _ ≤ l.getD 2 0 ∧ l.getD 2 0 ≤ _; omega, by show _ ≤ l.getD 3 0 ∧ l.getD 3 0 ≤ _; omega, decK_bd (decN_eight hq), trivial⟩
   refine J.callF 43 7 #[.agg #[.int .i64 (l.getD 0 0), .int .i64 (l.getD 1 0), .int .i64 (l.getD 2 0), .int .i64 (l.getD 3 0), .int .i64 (decK (decU l))]] hb7 (by kernel_rfl) (rformed_any (decI l) _ hqi) ?_
   rintro _ w6 ⟨rfl, T1⟩
   have S6 : Sep w [box b2 [.int .i64 (l.getD 0 0), .int .i64 (l.getD 1 0), .int .i64 (l.getD 2 0), .int .i64 (l.getD 3 0), .int .i64 (decK (decU l))] 23, box b1 [.int .i64 0, .int .i64 0, .int .i64 0, .int .i64 0, .int .i64 0] 23] w6 := S5.trans T1
   clear T1 S5
   refine J.run 2 K13_10 [(44, .bool (!(formB (decI l)))), (6, .pointer (some ⟨b2, 0, none⟩)), (2, .pointer (some ⟨b1, 0, none⟩))] w6 (by kernel_rfl) ?_
   rcases Bool.eq_false_or_eq_true (formB (decI l)) with fk2 | fk2
   ·skip
    refine J.head (.bool false) (congrArg Value.bool (by rw [fk2]; rfl)) ?_
    refine J.run 4 K13_11 [(6, .pointer (some ⟨b2, 0, none⟩)), (2, .pointer (some ⟨b1, 0, none⟩))] w6 (by kernel_rfl) ?_
    refine J.ok (OK.ldBox S6 0 46 23 0 (.agg #[.int .i64 (l.getD 0 0), .int .i64 (l.getD 1 0), .int .i64 (l.getD 2 0), .int .i64 (l.getD 3 0), .int .i64 (decK (decU l))]) (by kernel_rfl) rfl (by kernel_rfl)) ?_
    refine J.stBox S6 1 23 0 (.agg #[.int .i64 (l.getD 0 0), .int .i64 (l.getD 1 0), .int .i64 (l.getD 2 0), .int .i64 (l.getD 3 0), .int .i64 (decK (decU l))]) [.int .i64 (l.getD 0 0), .int .i64 (l.getD 1 0), .int .i64 (l.getD 2 0), .int .i64 (l.getD 3 0), .int .i64 (decK (decU l))] [box b2 [.int .i64 (l.getD 0 0), .int .i64 (l.getD 1 0), .int .i64 (l.getD 2 0), .int .i64 (l.getD 3 0), .int .i64 (decK (decU l))] 23, box b1 [.int .i64 (l.getD 0 0), .int .i64 (l.getD 1 0), .int .i64 (l.getD 2 0), .int .i64 (l.getD 3 0), .int .i64 (decK (decU l))] 23] (by kernel_rfl) rfl (by kernel_rfl) (by kernel_rfl) rfl ?_
    intro w7 S7
    refine J.run 2 K13_12 [(3, .bool true), (2, .pointer (some ⟨b1, 0, none⟩))] w7 (by kernel_rfl) ?_
    refine J.ret Tryd.f13 [.agg #[.int .i64 (l.getD 0 0), .int .i64 (l.getD 1 0), .int .i64 (l.getD 2 0), .int .i64 (l.getD 3 0), .int .i64 (decK (decU l))], .bool true] Tryd.func13 ⟨⟨⟨b1, 0, none⟩, by kernel_rfl, ldV_run (S7.nth 1 rfl) (by kernel_rfl)⟩, by kernel_rfl, trivial⟩ ?_
    refine hR _ _ ?_
    obtain ⟨e1, e2, e3⟩ := dec_yes (l := l) (by omega) fk2
    exact ⟨by rw [e1, e3]; rfl, S7.nil⟩
   ·skip
    refine J.head (.bool true) (congrArg Value.bool (by rw [fk2]; rfl)) ?_
    refine J.run 4 K13_13 [(45, .agg #[.int .i64 0, .int .i64 0, .int .i64 0, .int .i64 0, .int .i64 0]), (2, .pointer (some ⟨b1, 0, none⟩))] w6 (by kernel_rfl) ?_
    refine J.stBox S6 1 23 0 (.agg #[.int .i64 0, .int .i64 0, .int .i64 0, .int .i64 0, .int .i64 0]) [.int .i64 0, .int .i64 0, .int .i64 0, .int .i64 0, .int .i64 0] [box b2 [.int .i64 (l.getD 0 0), .int .i64 (l.getD 1 0), .int .i64 (l.getD 2 0), .int .i64 (l.getD 3 0), .int .i64 (decK (decU l))] 23, box b1 [.int .i64 0, .int .i64 0, .int .i64 0, .int .i64 0, .int .i64 0] 23] (by kernel_rfl) rfl (by kernel_rfl) (by kernel_rfl) rfl ?_
    intro w8 S8
    refine J.run 2 K13_14 [(3, .bool false), (2, .pointer (some ⟨b1, 0, none⟩))] w8 (by kernel_rfl) ?_
    refine J.ret Tryd.f13 [.agg #[.int .i64 0, .int .i64 0, .int .i64 0, .int .i64 0, .int .i64 0], .bool false] Tryd.func13 ⟨⟨⟨b1, 0, none⟩, by kernel_rfl, ldV_run (S8.nth 1 rfl) (by kernel_rfl)⟩, by kernel_rfl, trivial⟩ ?_
    refine hR _ _ ?_
    obtain ⟨e1, e2, e3⟩ := dec_no (l := l) (.inr fk2)
    exact ⟨by rw [e1, e3]; rfl, S8.nil⟩
 exact L13_1 _ 0 4 w1 (by omega) (rfl) S1 rfl

noncomputable def K13a_0 : List Item := adv 2 [] (bodyOf Tryd.f13)
noncomputable def K13a_1 : List Item := adv 9 [] (popK K13a_0)
noncomputable def K13a_2 : List Item := adv 4 [true] K13a_1
noncomputable def K13a_3 : List Item := adv 2 [] (popK K13a_2)
set_option maxRecDepth 20000 in
set_option maxHeartbeats 20000000 in
theorem rdecodeno_any (a : Option Addr) (n c : Nat) (l : List Int) (w : World) (hn : n ≠ 12) (hll : l.length = n) : Ret Tryd.prog 13 #[.slice a n c] w (fun v w' => v = .tuple #[.agg #[.int .i64 (decR l).gOp, .int .i64 (decR l).gA, .int .i64 (decR l).gB, .int .i64 (decR l).gC, .int .i64 (decR l).gK], .bool (decB l)] ∧ Sep w [] w') := by
 have S0 := Sep.refl w
 refine Ret.named fun R hR => ?_
 refine Ret.of_J (N := 47) [(0, .slice a n c)] Tryd.func13 rfl rfl (Nat.le_of_ble_eq_true (by kernel_rfl)) (by kernel_rfl) ?_
 refine J.run 2 K13a_0 [(0, .slice a n c)] w (by kernel_rfl) ?_
 refine J.new S0 2 [.int .i64 0, .int .i64 0, .int .i64 0, .int .i64 0, .int .i64 0] 23 (by kernel_rfl) ?_
 intro b1 w1 S1
 refine J.run 9 K13a_1 [(9, .bool ((n : Int) != 12)), (2, .pointer (some ⟨b1, 0, none⟩)), (0, .slice a n c)] w1 (by kernel_rfl) ?_
 have fk2 : ¬ ((n : Int) = 12) := by omega
 refine J.head (.bool true) (congrArg Value.bool (bne_iff_ne.2 fk2)) ?_
 refine J.run 4 K13a_2 [(10, .agg #[.int .i64 0, .int .i64 0, .int .i64 0, .int .i64 0, .int .i64 0]), (2, .pointer (some ⟨b1, 0, none⟩))] w1 (by kernel_rfl) ?_
 refine J.stBox S1 0 23 0 (.agg #[.int .i64 0, .int .i64 0, .int .i64 0, .int .i64 0, .int .i64 0]) [.int .i64 0, .int .i64 0, .int .i64 0, .int .i64 0, .int .i64 0] [box b1 [.int .i64 0, .int .i64 0, .int .i64 0, .int .i64 0, .int .i64 0] 23] (by kernel_rfl) rfl (by kernel_rfl) (by kernel_rfl) rfl ?_
 intro w2 S2
 refine J.run 2 K13a_3 [(3, .bool false), (2, .pointer (some ⟨b1, 0, none⟩))] w2 (by kernel_rfl) ?_
 refine J.ret Tryd.f13 [.agg #[.int .i64 0, .int .i64 0, .int .i64 0, .int .i64 0, .int .i64 0], .bool false] Tryd.func13 ⟨⟨⟨b1, 0, none⟩, by kernel_rfl, ldV_run (S2.nth 0 rfl) (by kernel_rfl)⟩, by kernel_rfl, trivial⟩ ?_
 refine hR _ _ ?_
 obtain ⟨e1, e2, e3⟩ := dec_no (l := l) (.inl (by omega))
 exact ⟨by rw [e1, e3]; rfl, S2.nil⟩

theorem rdecode_any (a : Option Addr) (n c : Nat) (l : List Int) (w : World) (hI : Ones (Value.int .u8) w a n l) (hq : ∀ y ∈ l, 0 ≤ y ∧ y ≤ 255) (hcap : n ≤ c) : Ret Tryd.prog 13 #[.slice a n c] w (fun v w' => v = .tuple #[.agg #[.int .i64 (decR l).gOp, .int .i64 (decR l).gA, .int .i64 (decR l).gB, .int .i64 (decR l).gC, .int .i64 (decR l).gK], .bool (decB l)] ∧ Sep w [] w') := by
  by_cases h : n = 12
  · subst h; exact rdecode12_any a c l w hI hq hcap
  · exact rdecodeno_any a n c l w h hI.len_eq
end Go.Proofs.YthfpejhonhaggaaDoor
