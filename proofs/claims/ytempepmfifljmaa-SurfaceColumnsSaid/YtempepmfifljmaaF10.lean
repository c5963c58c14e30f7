/- Walks of functions of this seat, printed by a program over the engine. Conditions: as each theorem says. -/
import Derived.Test.YtempepmfifljmaaF9
namespace Go.Proofs.Ytempepmfifljmaa
open Go.Eng Go.RowKit
set_option linter.unusedSimpArgs false
set_option linter.unusedVariables false
theorem ne_getD {l : List Int} {a b : Nat} (h : l.getD a 0 ≠ l.getD b 0) : a ≠ b := fun e => h (by rw [e])
theorem hb64 : HasBody Try.prog 64 := fun _ _ => by kernel_rfl
noncomputable def K64_0 : List Item := adv 15 [] (bodyOf Try.f64)
noncomputable def K64_1 : List Item := adv 2 [] (popK (popK K64_0))
noncomputable def K64_2 : List Item := adv 4 [true] K64_1
noncomputable def K64_3 : List Item := adv 2 [] (popK (popK K64_2))
noncomputable def K64_4 : List Item := adv 9 [false] K64_1
noncomputable def K64_5 : List Item := adv 2 [] (popK (popK K64_4))
noncomputable def K64_6 : List Item := adv 6 [true] K64_5
noncomputable def K64_7 : List Item := adv 2 [] (popK (popK K64_6))
noncomputable def K64_8 : List Item := adv 9 [false] K64_5
noncomputable def K64_9 : List Item := adv 6 [] K64_8
noncomputable def K64_10 : List Item := adv 3 [] (popK (popK K64_9))
noncomputable def K64_11 : List Item := adv 6 [true] K64_10
noncomputable def K64_12 : List Item := adv 3 [false] K64_10
set_option maxRecDepth 20000 in
set_option maxHeartbeats 20000000 in
theorem rcurve_any (la : Option Addr) (len cap : Nat) (l : List Int) (ma : Option Addr) (mn mc : Nat) (ml : List Int) (x : Int) (w : World) (hI : Ints w la len l) (hJ : Ints w ma mn ml) (hc : axisB l = true ∧ ml.length = l.length ∧ ∀ j, j < ml.length → -1073741824 ≤ ml.getD j 0 ∧ ml.getD j 0 ≤ 1073741824) : Ret Try.prog 64 #[.slice la len cap, .slice ma mn mc, .int .i64 x] w (fun v w' => v = .int .i64 (curveF l ml x) ∧ Sep w [] w') := by
  have S0 := Sep.refl w
  refine Ret.named fun R hR => ?_
  refine Ret.of_J (N := 73) [(0, .slice la len cap), (1, .slice ma mn mc), (2, .int .i64 x)] Try.func64 rfl rfl (Nat.le_of_ble_eq_true (by kernel_rfl)) (by kernel_rfl) ?_
  have hll := hI.len_eq
  have hml := hJ.len_eq
  obtain ⟨hx1, hx2, hx3⟩ := axis_facts hc.1
  have hc2 := hc.2.1
  refine J.run 15 K64_0 [(12, .slice la len cap), (11, .int .i64 x), (7, .int .i64 (len : Int)), (0, .slice la len cap), (1, .slice ma mn mc), (2, .int .i64 x)] w (by kernel_rfl) ?_
  obtain ⟨p1, hp1, hc1⟩ := hI.at 0 0 (by omega)
  refine J.ok (OK.index 13 22 1 la p1 len 0 0 (p1.add 0) (by kernel_rfl) (by kernel_rfl) hp1 (by omega) (by omega) (by rw [Nat.mul_one])) ?_
  refine J.ok (OK.ldCell 14 3 (p1.add 0) (.int .i64 (l.getD 0 0)) (by kernel_rfl) (by kernel_rfl) (S0.cell hc1)) ?_
  refine J.run 2 K64_1 [(15, .bool (decide (x ≤ (l.getD 0 0)))), (7, .int .i64 (len : Int)), (0, .slice la len cap), (1, .slice ma mn mc), (2, .int .i64 x)] w (by kernel_rfl) ?_
  by_cases fk1 : x ≤ (l.getD 0 0)
  · skip
    refine J.head (.bool true) (congrArg Value.bool (decide_eq_true fk1)) ?_
    refine J.run 4 K64_2 [(16, .slice ma mn mc)] w (by kernel_rfl) ?_
    obtain ⟨p2, hp2, hc2⟩ := hJ.at 0 0 (by omega)
    refine J.ok (OK.index 17 22 1 ma p2 mn 0 0 (p2.add 0) (by kernel_rfl) (by kernel_rfl) hp2 (by omega) (by omega) (by rw [Nat.mul_one])) ?_
    refine J.ok (OK.ldCell 18 3 (p2.add 0) (.int .i64 (ml.getD 0 0)) (by kernel_rfl) (by kernel_rfl) (S0.cell hc2)) ?_
    refine J.run 2 K64_3 [(6, .int .i64 (ml.getD 0 0))] w (by kernel_rfl) ?_
    refine J.ret Try.f64 [.int .i64 (ml.getD 0 0)] Try.func64 ⟨by kernel_rfl, trivial⟩ ?_
    refine hR _ _ ?_
    exact ⟨congrArg (Value.int .i64) (by unfold curveF; first | rw [if_pos (by omega)] | (rw [if_neg (by omega), if_pos (by rw [show l.length - 1 = ((len : Int) - 1).toNat by omega]; omega), show l.length - 1 = ((len : Int) - 1).toNat by omega])), S0.nil⟩
  · skip
    refine J.head (.bool false) (congrArg Value.bool (decide_eq_false fk1)) ?_
    refine J.run 9 K64_4 [(22, .int .i64 (IntKind.wrap .i64 ((len : Int) - 1))), (20, .slice la len cap), (19, .int .i64 x), (7, .int .i64 (len : Int)), (0, .slice la len cap), (1, .slice ma mn mc), (2, .int .i64 x)] w (by kernel_rfl) ?_
    refine J.head (.int .i64 ((len : Int) - 1)) (congrArg (Value.int .i64) (IntWalk.i64_in _ (by omega))) ?_
    obtain ⟨p3, hp3, hc3⟩ := hI.at 0 ((len : Int) - 1).toNat (by omega)
    refine J.ok (OK.index 23 22 1 la p3 len ((len : Int) - 1).toNat ((len : Int) - 1) (p3.add ((len : Int) - 1).toNat) (by kernel_rfl) (by kernel_rfl) hp3 (by omega) (by omega) (by rw [Nat.mul_one])) ?_
    refine J.ok (OK.ldCell 24 3 (p3.add ((len : Int) - 1).toNat) (.int .i64 (l.getD ((len : Int) - 1).toNat 0)) (by kernel_rfl) (by kernel_rfl) (S0.cell hc3)) ?_
    refine J.run 2 K64_5 [(25, .bool (decide (x ≥ (l.getD ((len : Int) - 1).toNat 0)))), (7, .int .i64 (len : Int)), (0, .slice la len cap), (1, .slice ma mn mc), (2, .int .i64 x)] w (by kernel_rfl) ?_
    by_cases fk2 : x ≥ (l.getD ((len : Int) - 1).toNat 0)
    · skip
      refine J.head (.bool true) (congrArg Value.bool (decide_eq_true fk2)) ?_
      refine J.run 6 K64_6 [(28, .int .i64 (IntKind.wrap .i64 ((len : Int) - 1))), (26, .slice ma mn mc)] w (by kernel_rfl) ?_
      refine J.head (.int .i64 ((len : Int) - 1)) (congrArg (Value.int .i64) (IntWalk.i64_in _ (by omega))) ?_
      obtain ⟨p4, hp4, hc4⟩ := hJ.at 0 ((len : Int) - 1).toNat (by omega)
      refine J.ok (OK.index 29 22 1 ma p4 mn ((len : Int) - 1).toNat ((len : Int) - 1) (p4.add ((len : Int) - 1).toNat) (by kernel_rfl) (by kernel_rfl) hp4 (by omega) (by omega) (by rw [Nat.mul_one])) ?_
      refine J.ok (OK.ldCell 30 3 (p4.add ((len : Int) - 1).toNat) (.int .i64 (ml.getD ((len : Int) - 1).toNat 0)) (by kernel_rfl) (by kernel_rfl) (S0.cell hc4)) ?_
      refine J.run 2 K64_7 [(6, .int .i64 (ml.getD ((len : Int) - 1).toNat 0))] w (by kernel_rfl) ?_
      refine J.ret Try.f64 [.int .i64 (ml.getD ((len : Int) - 1).toNat 0)] Try.func64 ⟨by kernel_rfl, trivial⟩ ?_
      refine hR _ _ ?_
      exact ⟨congrArg (Value.int .i64) (by unfold curveF; first | rw [if_pos (by omega)] | (rw [if_neg (by omega), if_pos (by rw [show l.length - 1 = ((len : Int) - 1).toNat by omega]; omega), show l.length - 1 = ((len : Int) - 1).toNat by omega])), S0.nil⟩
    · skip
      refine J.head (.bool false) (congrArg Value.bool (decide_eq_false fk2)) ?_
      refine J.run 9 K64_8 [(8, .int .i64 0), (0, .slice la len cap), (1, .slice ma mn mc), (2, .int .i64 x)] w (by kernel_rfl) ?_
      have L64_1 : ∀ (mm_ : Nat) (i : Int) (w1 : World), (0 ≤ i ∧ i + 1 < (len : Int)) → (l.getD (i).toNat 0 ≤ x) → Sep w [] w1 → ((len : Int) - i).toNat = mm_ → J Try.prog 64 73 R K64_8 [(8, .int .i64 i), (0, .slice la len cap), (1, .slice ma mn mc), (2, .int .i64 x)] w1 := by
        intro mm1
        induction mm1 using Nat.strongRecOn with
        | _ mm1 ih1 =>
        intro i w1 h0 hle S1 hm1
        refine J.run 6 K64_9 [(33, .int .i64 (IntKind.wrap .i64 (i + 1))), (31, .slice la len cap), (8, .int .i64 i), (0, .slice la len cap), (1, .slice ma mn mc), (2, .int .i64 x)] w1 (by kernel_rfl) ?_
        refine J.head (.int .i64 (i + 1)) (congrArg (Value.int .i64) (IntWalk.i64_in _ (by omega))) ?_
        obtain ⟨p5, hp5, hc5⟩ := hI.at 0 (i + 1).toNat (by omega)
        refine J.ok (OK.index 34 22 1 la p5 len (i + 1).toNat (i + 1) (p5.add (i + 1).toNat) (by kernel_rfl) (by kernel_rfl) hp5 (by omega) (by omega) (by rw [Nat.mul_one])) ?_
        refine J.ok (OK.ldCell 35 3 (p5.add (i + 1).toNat) (.int .i64 (l.getD (i + 1).toNat 0)) (by kernel_rfl) (by kernel_rfl) (S1.cell hc5)) ?_
        refine J.run 3 K64_10 [(37, .bool (decide ((l.getD (i + 1).toNat 0) ≤ x))), (8, .int .i64 i), (0, .slice la len cap), (1, .slice ma mn mc), (2, .int .i64 x)] w1 (by kernel_rfl) ?_
        by_cases fk3 : (l.getD (i + 1).toNat 0) ≤ x
        · skip
          refine J.head (.bool true) (congrArg Value.bool (decide_eq_true fk3)) ?_
          refine J.run 6 K64_11 [(39, .int .i64 (IntKind.wrap .i64 (i + 1))), (0, .slice la len cap), (1, .slice ma mn mc), (2, .int .i64 x)] w1 (by kernel_rfl) ?_
          refine J.head (.int .i64 (i + 1)) (congrArg (Value.int .i64) (IntWalk.i64_in _ (by omega))) ?_
          refine J.run 4 K64_8 [(8, .int .i64 (i + 1)), (0, .slice la len cap), (1, .slice ma mn mc), (2, .int .i64 x)] w1 (by kernel_rfl) ?_
          refine J.run 0 K64_8 [(8, .int .i64 (i + 1)), (0, .slice la len cap), (1, .slice ma mn mc), (2, .int .i64 x)] w1 (by kernel_rfl) ?_
          exact ih1 _ (show ((len : Int) - (i + 1)).toNat < mm1 from by omega) (i + 1) w1 (⟨by omega, by have h_ := ne_getD (l := l) (a := (i + 1).toNat) (b := ((len : Int) - 1).toNat) (by omega); omega⟩) (by omega) S1 rfl
        · skip
          refine J.head (.bool false) (congrArg Value.bool (decide_eq_false fk3)) ?_
          have hA1 := hx2 i.toNat (by omega)
          have hA2 := hx2 (i + 1).toNat (by omega)
          have hA3 := axis_mono hc.1 (show i.toNat < (i + 1).toNat by omega) (by omega)
          have hB1 := hc.2.2 i.toNat (by omega)
          have hB2 := hc.2.2 (i + 1).toNat (by omega)
          refine J.run 3 K64_12 [(8, .int .i64 i), (0, .slice la len cap), (1, .slice ma mn mc), (2, .int .i64 x)] w1 (by kernel_rfl) ?_
          obtain ⟨p6, hp6, hc6⟩ := hJ.at 0 (i).toNat (by omega)
          obtain ⟨p7, hp7, hc7⟩ := hI.at 0 (i).toNat (by omega)
          obtain ⟨p8, hp8, hc8⟩ := hJ.at 0 (i + 1).toNat (by omega)
          refine J.drawPlan (fun w_ => Sep w [] w_) [(0, true), (1, true), (2, true), (3, true), (4, true), (5, true), (6, true), (7, true), (8, true), (9, true), (10, true), (11, true), (12, true), (13, true), (14, true), (15, true), (16, true), (17, true), (18, true), (19, true), (20, true), (21, true), (22, true), (23, true), (24, true), (25, true), (26, true), (27, true), (28, true), (29, true), (30, true), (31, false), (32, true), (33, true)] S1 Try.mixed (by kernel_rfl) (planOK_of (T := [(0, some 40, 2), (0, some 41, 256), (3, some 42, 3298534883328), (4, some 43, 4398046511104), (0, some 44, 4), (0, some 45, 1), (0, some 46, 256), (96, some 47, 105553116266496), (128, some 48, 140737488355328), (272, some 49, 299067162755072), (0, some 50, 2), (0, some 51, 256), (2048, some 52, 2251799813685248), (5120, some 53, 5629499534213120), (8192, some 54, 9007199254740992), (0, some 55, 2), (0, some 56, 256), (98304, some 57, 108086391056891904), (131072, some 58, 144115188075855872), (278528, some 59, 306244774661193728), (524800, some 60, 577023702256844800), (0, some 61, 1), (0, some 62, 256), (4194304, some 63, 4611686018427387904), (10485760, some 64, 11529215046068469760), (16777216, some 65, 18446744073709551616), (0, some 66, 1), (0, some 67, 256), (201326592, some 68, 221360928884514619392), (268435456, some 69, 295147905179352825856), (570425344, some 70, 627189298506124754944), (1074790400, some 71, 1181744542222018150400), (2147483656, some 72, 2361183250230915629056), (8589934591, some 6, 4722366482869645213696)]) (by kernel_rfl) (by kernel_rfl)) ?_
          intro w2 S2
          refine PB.mk (S2.sub (.slnil)) ?_
          refine PL.take 0 40 (.slice ma mn mc) (fun _ _ => by kernel_rfl) ?_
          refine PL.take 1 41 (.int .i64 i) (fun _ _ => by kernel_rfl) ?_
          refine PL.takeOK 2 (fun w_ S_ => OK.index 42 22 1 ma p6 mn (i).toNat i (p6.add (i).toNat) (by kernel_rfl) (by kernel_rfl) hp6 (by omega) (by omega) (by rw [Nat.mul_one])) rfl ?_
          refine PL.takeOK 3 (fun w_ S_ => OK.ldCell 43 3 (p6.add (i).toNat) (.int .i64 (ml.getD (i).toNat 0)) (by kernel_rfl) (by kernel_rfl) (S_.cell hc6)) rfl ?_
          refine PL.take 4 44 (.int .i64 x) (fun _ _ => by kernel_rfl) ?_
          refine PL.take 5 45 (.slice la len cap) (fun _ _ => by kernel_rfl) ?_
          refine PL.take 6 46 (.int .i64 i) (fun _ _ => by kernel_rfl) ?_
          refine PL.takeOK 7 (fun w_ S_ => OK.index 47 22 1 la p7 len (i).toNat i (p7.add (i).toNat) (by kernel_rfl) (by kernel_rfl) hp7 (by omega) (by omega) (by rw [Nat.mul_one])) rfl ?_
          refine PL.takeOK 8 (fun w_ S_ => OK.ldCell 48 3 (p7.add (i).toNat) (.int .i64 (l.getD (i).toNat 0)) (by kernel_rfl) (by kernel_rfl) (S_.cell hc7)) rfl ?_
          refine PL.take 9 49 (.int .i64 (IntKind.wrap .i64 (x - (l.getD (i).toNat 0)))) (fun _ _ => by kernel_rfl) ?_
          refine PL.head (.int .i64 (x - (l.getD (i).toNat 0))) (congrArg (Value.int .i64) (IntWalk.i64_in _ (by omega))) ?_
          refine PL.take 10 50 (.slice ma mn mc) (fun _ _ => by kernel_rfl) ?_
          refine PL.take 11 51 (.int .i64 i) (fun _ _ => by kernel_rfl) ?_
          refine PL.take 12 52 (.int .i64 (IntKind.wrap .i64 (i + 1))) (fun _ _ => by kernel_rfl) ?_
          refine PL.head (.int .i64 (i + 1)) (congrArg (Value.int .i64) (IntWalk.i64_in _ (by omega))) ?_
          refine PL.takeOK 13 (fun w_ S_ => OK.index 53 22 1 ma p8 mn (i + 1).toNat (i + 1) (p8.add (i + 1).toNat) (by kernel_rfl) (by kernel_rfl) hp8 (by omega) (by omega) (by rw [Nat.mul_one])) rfl ?_
          refine PL.takeOK 14 (fun w_ S_ => OK.ldCell 54 3 (p8.add (i + 1).toNat) (.int .i64 (ml.getD (i + 1).toNat 0)) (by kernel_rfl) (by kernel_rfl) (S_.cell hc8)) rfl ?_
          refine PL.take 15 55 (.slice ma mn mc) (fun _ _ => by kernel_rfl) ?_
          refine PL.take 16 56 (.int .i64 i) (fun _ _ => by kernel_rfl) ?_
          refine PL.takeOK 17 (fun w_ S_ => OK.index 57 22 1 ma p6 mn (i).toNat i (p6.add (i).toNat) (by kernel_rfl) (by kernel_rfl) hp6 (by omega) (by omega) (by rw [Nat.mul_one])) rfl ?_
          refine PL.takeOK 18 (fun w_ S_ => OK.ldCell 58 3 (p6.add (i).toNat) (.int .i64 (ml.getD (i).toNat 0)) (by kernel_rfl) (by kernel_rfl) (S_.cell hc6)) rfl ?_
          refine PL.take 19 59 (.int .i64 (IntKind.wrap .i64 ((ml.getD (i + 1).toNat 0) - (ml.getD (i).toNat 0)))) (fun _ _ => by kernel_rfl) ?_
          refine PL.head (.int .i64 ((ml.getD (i + 1).toNat 0) - (ml.getD (i).toNat 0))) (congrArg (Value.int .i64) (IntWalk.i64_in _ (by omega))) ?_
          refine PL.take 20 60 (.int .i64 (IntKind.wrap .i64 ((x - (l.getD (i).toNat 0)) * ((ml.getD (i + 1).toNat 0) - (ml.getD (i).toNat 0))))) (fun _ _ => by kernel_rfl) ?_
          have hpb := prod_bd (t := x - (l.getD (i).toNat 0)) (k := (ml.getD (i + 1).toNat 0) - (ml.getD (i).toNat 0)) (by omega) (by omega)
          refine PL.head (.int .i64 ((x - (l.getD (i).toNat 0)) * ((ml.getD (i + 1).toNat 0) - (ml.getD (i).toNat 0)))) (congrArg (Value.int .i64) (IntWalk.i64_in _ (by omega))) ?_
          refine PL.take 21 61 (.slice la len cap) (fun _ _ => by kernel_rfl) ?_
          refine PL.take 22 62 (.int .i64 i) (fun _ _ => by kernel_rfl) ?_
          refine PL.take 23 63 (.int .i64 (IntKind.wrap .i64 (i + 1))) (fun _ _ => by kernel_rfl) ?_
          refine PL.head (.int .i64 (i + 1)) (congrArg (Value.int .i64) (IntWalk.i64_in _ (by omega))) ?_
          refine PL.takeOK 24 (fun w_ S_ => OK.index 64 22 1 la p5 len (i + 1).toNat (i + 1) (p5.add (i + 1).toNat) (by kernel_rfl) (by kernel_rfl) hp5 (by omega) (by omega) (by rw [Nat.mul_one])) rfl ?_
          refine PL.takeOK 25 (fun w_ S_ => OK.ldCell 65 3 (p5.add (i + 1).toNat) (.int .i64 (l.getD (i + 1).toNat 0)) (by kernel_rfl) (by kernel_rfl) (S_.cell hc5)) rfl ?_
          refine PL.take 26 66 (.slice la len cap) (fun _ _ => by kernel_rfl) ?_
          refine PL.take 27 67 (.int .i64 i) (fun _ _ => by kernel_rfl) ?_
          refine PL.takeOK 28 (fun w_ S_ => OK.index 68 22 1 la p7 len (i).toNat i (p7.add (i).toNat) (by kernel_rfl) (by kernel_rfl) hp7 (by omega) (by omega) (by rw [Nat.mul_one])) rfl ?_
          refine PL.takeOK 29 (fun w_ S_ => OK.ldCell 69 3 (p7.add (i).toNat) (.int .i64 (l.getD (i).toNat 0)) (by kernel_rfl) (by kernel_rfl) (S_.cell hc7)) rfl ?_
          refine PL.take 30 70 (.int .i64 (IntKind.wrap .i64 ((l.getD (i + 1).toNat 0) - (l.getD (i).toNat 0)))) (fun _ _ => by kernel_rfl) ?_
          refine PL.head (.int .i64 ((l.getD (i + 1).toNat 0) - (l.getD (i).toNat 0))) (congrArg (Value.int .i64) (IntWalk.i64_in _ (by omega))) ?_
          have hpb := prod_bd (t := x - l.getD (i).toNat 0) (k := ml.getD (i + 1).toNat 0 - ml.getD (i).toNat 0) (by omega) (by omega)
          refine PL.callF 71 45 #[.int .i64 ((x - (l.getD (i).toNat 0)) * ((ml.getD (i + 1).toNat 0) - (ml.getD (i).toNat 0))), .int .i64 ((l.getD (i + 1).toNat 0) - (l.getD (i).toNat 0))] hb45 (by kernel_rfl) (rfloor_any ((x - (l.getD (i).toNat 0)) * ((ml.getD (i + 1).toNat 0) - (ml.getD (i).toNat 0))) ((l.getD (i + 1).toNat 0) - (l.getD (i).toNat 0)) _ (by omega) (by omega)) ?_
          rintro _ w3 ⟨rfl, T1⟩
          have S3 : Sep w [] w3 := S2.trans T1
          clear T1 S2
          have hbw := btw_bounds (x0 := l.getD (i).toNat 0) (x1 := l.getD (i + 1).toNat 0) (y0 := ml.getD (i).toNat 0) (y1 := ml.getD (i + 1).toNat 0) (x := x) (by omega) (by omega) (by omega)
          unfold btwF at hbw
          refine PB.mk (S3.sub (.slnil)) ?_
          refine PL.take 32 72 (.int .i64 (IntKind.wrap .i64 ((ml.getD (i).toNat 0) + (((x - (l.getD (i).toNat 0)) * ((ml.getD (i + 1).toNat 0) - (ml.getD (i).toNat 0))) / ((l.getD (i + 1).toNat 0) - (l.getD (i).toNat 0)))))) (fun _ _ => by kernel_rfl) ?_
          refine PL.head (.int .i64 ((ml.getD (i).toNat 0) + (((x - (l.getD (i).toNat 0)) * ((ml.getD (i + 1).toNat 0) - (ml.getD (i).toNat 0))) / ((l.getD (i + 1).toNat 0) - (l.getD (i).toNat 0))))) (congrArg (Value.int .i64) (IntWalk.i64_in _ (by omega))) ?_
          refine PL.take 33 6 (.int .i64 ((ml.getD (i).toNat 0) + (((x - (l.getD (i).toNat 0)) * ((ml.getD (i + 1).toNat 0) - (ml.getD (i).toNat 0))) / ((l.getD (i + 1).toNat 0) - (l.getD (i).toNat 0))))) (fun _ _ => by kernel_rfl) ?_
          refine PL.done ?_
          refine J.run 0 (rRest K64_12) [(6, .int .i64 ((ml.getD (i).toNat 0) + (((x - (l.getD (i).toNat 0)) * ((ml.getD (i + 1).toNat 0) - (ml.getD (i).toNat 0))) / ((l.getD (i + 1).toNat 0) - (l.getD (i).toNat 0)))))] w3 (by kernel_rfl) ?_
          refine J.ret Try.f64 [.int .i64 ((ml.getD (i).toNat 0) + (((x - (l.getD (i).toNat 0)) * ((ml.getD (i + 1).toNat 0) - (ml.getD (i).toNat 0))) / ((l.getD (i + 1).toNat 0) - (l.getD (i).toNat 0))))] Try.func64 ⟨by kernel_rfl, trivial⟩ ?_
          refine hR _ _ ?_
          have e := curve_seg (xs := l) (ys := ml) (x := x) (x' := x) (i := i.toNat) hc.1 (by omega) (by omega) (by rw [show i.toNat + 1 = (i + 1).toNat by omega]; omega) (.inl (by rw [show i.toNat + 1 = (i + 1).toNat by omega]; omega)) (by rw [show l.length - 1 = ((len : Int) - 1).toNat by omega]; omega)
          rw [show i.toNat + 1 = (i + 1).toNat by omega] at e
          exact ⟨congrArg (Value.int .i64) (by rw [e]; rfl), S3.nil⟩
      exact L64_1 _ 0 w (by omega) (by simp only [Int.toNat_zero]; omega) S0 rfl

theorem seg_exists {xs : List Int} (x : Int) (ax : axisB xs = true) : ∃ (i : Nat) (x' : Int), i + 1 < xs.length ∧ xs.getD i 0 ≤ x' ∧ x' ≤ xs.getD (i + 1) 0 ∧ (x' < xs.getD (i + 1) 0 ∨ i + 2 = xs.length) ∧ x' = min (max x (xs.getD 0 0)) (xs.getD (xs.length - 1) 0) := by
  obtain ⟨hl, _⟩ := axis_facts ax
  have hends := axis_mono ax (show 0 < xs.length - 1 by omega) (by omega)
  obtain ⟨x', hx⟩ : ∃ x', x' = min (max x (xs.getD 0 0)) (xs.getD (xs.length - 1) 0) := ⟨_, rfl⟩
  have key : ∀ k, k + 2 ≤ xs.length → (∃ i, i < k ∧ xs.getD i 0 ≤ x' ∧ x' < xs.getD (i + 1) 0) ∨ xs.getD k 0 ≤ x' := by
    intro k
    induction k with
    | zero => intro _; right; omega
    | succ k ih =>
      intro hk
      rcases ih (by omega) with ⟨i, h1, h2, h3⟩ | h
      · exact .inl ⟨i, by omega, h2, h3⟩
      · by_cases h2 : x' < xs.getD (k + 1) 0
        · exact .inl ⟨k, by omega, h, h2⟩
        · exact .inr (by omega)
  rcases key (xs.length - 2) (by omega) with ⟨i, h1, h2, h3⟩ | h
  · exact ⟨i, x', by omega, h2, by omega, .inl h3, hx⟩
  · exact ⟨xs.length - 2, x', by omega, h, by rw [show xs.length - 2 + 1 = xs.length - 1 by omega]; omega, .inr (by omega), hx⟩
theorem curve_in {xs ys : List Int} {lo hi : Int} (x : Int) (ax : axisB xs = true) (hl : ys.length = xs.length) (hb : ∀ j, j < ys.length → lo ≤ ys.getD j 0 ∧ ys.getD j 0 ≤ hi) : lo ≤ curveF xs ys x ∧ curveF xs ys x ≤ hi := by
  obtain ⟨i, x', h1, h2, h3, h4, h5⟩ := seg_exists x ax
  rw [curve_seg ax h1 h2 h3 h4 h5]
  have b1 := hb i (by omega)
  have b2 := hb (i + 1) (by omega)
  obtain ⟨c1, c2⟩ := btw_bounds (y0 := ys.getD i 0) (y1 := ys.getD (i + 1) 0) (axis_mono ax (show i < i + 1 by omega) h1) h2 h3
  omega
theorem btw_form {x0 x1 y0 y1 x : Int} (h : x0 < x1) : btwF x0 x1 y0 y1 x = ((x1 - x) * y0 + (x - x0) * y1) / (x1 - x0) := by
  unfold btwF
  rw [show (x1 - x) * y0 + (x - x0) * y1 = (x - x0) * (y1 - y0) + y0 * (x1 - x0) by grind, Int.add_mul_ediv_right _ _ (by omega)]
  omega
theorem btw_mono_y {x0 x1 y0 y1 z0 z1 x : Int} (h : x0 < x1) (h0 : x0 ≤ x) (h1 : x ≤ x1) (hy : y0 ≤ z0) (hz : y1 ≤ z1) : btwF x0 x1 y0 y1 x ≤ btwF x0 x1 z0 z1 x := by
  rw [btw_form h, btw_form h]
  refine Int.ediv_le_ediv (by omega) ?_
  have a1 := Int.mul_le_mul_of_nonneg_left hy (show 0 ≤ x1 - x by omega)
  have a2 := Int.mul_le_mul_of_nonneg_left hz (show 0 ≤ x - x0 by omega)
  omega
theorem btw_mono_x {x0 x1 y0 y1 x x' : Int} (h : x0 < x1) (hx : x ≤ x') (hy : y0 ≤ y1) : btwF x0 x1 y0 y1 x ≤ btwF x0 x1 y0 y1 x' := by
  unfold btwF
  have a1 := Int.mul_le_mul_of_nonneg_right (show x - x0 ≤ x' - x0 by omega) (show 0 ≤ y1 - y0 by omega)
  have := Int.ediv_le_ediv (show 0 < x1 - x0 by omega) a1
  omega
theorem curve_mono_y {xs ys zs : List Int} {x : Int} (ax : axisB xs = true) (h : ∀ j, j < xs.length → ys.getD j 0 ≤ zs.getD j 0) : curveF xs ys x ≤ curveF xs zs x := by
  obtain ⟨i, x', h1, h2, h3, h4, h5⟩ := seg_exists x ax
  rw [curve_seg ax h1 h2 h3 h4 h5, curve_seg ax h1 h2 h3 h4 h5]
  exact btw_mono_y (axis_mono ax (show i < i + 1 by omega) h1) h2 h3 (h i (by omega)) (h (i + 1) h1)
theorem mono_le {ys : List Int} {n : Nat} (h : ∀ j, j + 1 < n → ys.getD j 0 ≤ ys.getD (j + 1) 0) : ∀ {i j : Nat}, i ≤ j → j < n → ys.getD i 0 ≤ ys.getD j 0 := by
  intro i j
  induction j with
  | zero => intro h1 _; rw [show i = 0 by omega]; exact Int.le_refl _
  | succ j ih =>
    intro h1 h2
    by_cases e : i = j + 1
    · subst e; exact Int.le_refl _
    · exact Int.le_trans (ih (by omega) (by omega)) (h j h2)
theorem curve_mono_x {xs ys : List Int} {x z : Int} (ax : axisB xs = true) (h : ∀ j, j + 1 < xs.length → ys.getD j 0 ≤ ys.getD (j + 1) 0) (hx : x ≤ z) : curveF xs ys x ≤ curveF xs ys z := by
  obtain ⟨i, x', h1, h2, h3, h4, h5⟩ := seg_exists x ax
  obtain ⟨k, z', k1, k2, k3, k4, k5⟩ := seg_exists z ax
  rw [curve_seg ax h1 h2 h3 h4 h5, curve_seg ax k1 k2 k3 k4 k5]
  have hxz : x' ≤ z' := by rw [h5, k5]; omega
  have m1 := axis_mono ax (show i < i + 1 by omega) h1
  have m2 := axis_mono ax (show k < k + 1 by omega) k1
  rcases Nat.lt_trichotomy i k with e | e | e
  · have b1 := (btw_bounds (y0 := ys.getD i 0) (y1 := ys.getD (i + 1) 0) m1 h2 h3).1 (h i h1)
    have b2 := (btw_bounds (y0 := ys.getD k 0) (y1 := ys.getD (k + 1) 0) m2 k2 k3).1 (h k k1)
    have := mono_le h (show i + 1 ≤ k by omega) (by omega)
    omega
  · subst e; exact btw_mono_x m1 hxz (h i h1)
  · have := axis_le ax (show k + 1 ≤ i by omega) (by omega)
    have e2 : x' = z' := by omega
    subst e2
    have b1 := (btw_bounds (y0 := ys.getD i 0) (y1 := ys.getD (i + 1) 0) m1 h2 h3).1 (h i h1)
    have hk : x' = xs.getD (k + 1) 0 := by omega
    have hi : xs.getD i 0 = xs.getD (k + 1) 0 := by omega
    have hik : i = k + 1 := by
      rcases Nat.lt_or_ge (k + 1) i with e3 | e3
      · have := axis_mono ax e3 (by omega); omega
      · omega
    subst hik
    have e4 : btwF (xs.getD k 0) (xs.getD (k + 1) 0) (ys.getD k 0) (ys.getD (k + 1) 0) x' = ys.getD (k + 1) 0 := by rw [hk]; exact btw_right _ _ m2
    have e5 : btwF (xs.getD (k + 1) 0) (xs.getD (k + 1 + 1) 0) (ys.getD (k + 1) 0) (ys.getD (k + 1 + 1) 0) x' = ys.getD (k + 1) 0 := by rw [hk]; exact btw_left _ _ _ _
    omega
theorem curve_node {xs ys : List Int} {i : Nat} (ax : axisB xs = true) (hi : i < xs.length) : curveF xs ys (xs.getD i 0) = ys.getD i 0 := by
  have hl := (axis_facts ax).1
  have h0 := axis_le ax (show 0 ≤ i by omega) hi
  have h1 := axis_le ax (show i ≤ xs.length - 1 by omega) (by omega)
  by_cases e : i + 1 < xs.length
  · have m := axis_mono ax (show i < i + 1 by omega) e
    rw [curve_seg (x' := xs.getD i 0) ax e (Int.le_refl _) (by omega) (.inl m) (by omega)]
    exact btw_left _ _ _ _
  · have e1 : i - 1 + 1 = i := by omega
    have m := axis_mono ax (show i - 1 < i by omega) hi
    rw [curve_seg (x' := xs.getD i 0) (i := i - 1) ax (by omega) (by omega) (by rw [e1]; exact Int.le_refl _) (.inr (by omega)) (by omega), e1]
    exact btw_right _ _ m
theorem curve_low {xs ys : List Int} {x : Int} (h : x ≤ xs.getD 0 0) : curveF xs ys x = ys.getD 0 0 := by unfold curveF; rw [if_pos h]
theorem curve_high {xs ys : List Int} {x : Int} (ax : axisB xs = true) (h : xs.getD (xs.length - 1) 0 ≤ x) : curveF xs ys x = ys.getD (xs.length - 1) 0 := by
  have hl := (axis_facts ax).1
  have := axis_mono ax (show 0 < xs.length - 1 by omega) (by omega)
  unfold curveF; rw [if_neg (by omega), if_pos h]
/-- what is known of a valid map -/
structure Vm (m : Mp) : Prop where
  ax : axisB m.gX_l = true
  ay : axisB m.gY_l = true
  z : ∀ i, i < m.gX_n → ∀ j, j < m.gY_n → -1073741824 ≤ zF m i j ∧ zF m i j ≤ 1073741824
theorem vm_of {m : Mp} (h : validM m = true) (hZ : m.gZ_l.length = m.gZ_n) (hr : ∀ i, i < m.gZ_l.length → (m.gZ_l.getD i rw0).gS_l.length = (m.gZ_l.getD i rw0).gS_n) : Vm m := by
  obtain ⟨h1, h2, h3, h4⟩ := valid_facts h
  refine ⟨h1, h2, fun i hi j hj => ?_⟩
  obtain ⟨h5, h6⟩ := h4 i (by omega)
  exact h6 j (by rw [hr i (by omega)]; omega)
theorem colZ_length (m : Mp) (j : Nat) : (colZ m j).length = m.gX_n := by simp [colZ]
theorem colF_length (m : Mp) (x : Int) : (colF m x).length = m.gY_n := by simp [colF]
theorem colZ_in {m : Mp} (v : Vm m) {j : Nat} (hj : j < m.gY_n) : ∀ i, i < (colZ m j).length → -1073741824 ≤ (colZ m j).getD i 0 ∧ (colZ m j).getD i 0 ≤ 1073741824 := by
  intro i hi
  rw [colZ_length] at hi
  rw [colZ_getD m hi]; exact v.z i hi j hj
theorem colF_in {m : Mp} (hX : m.gX_l.length = m.gX_n) (v : Vm m) (x : Int) : ∀ j, j < (colF m x).length → -1073741824 ≤ (colF m x).getD j 0 ∧ (colF m x).getD j 0 ≤ 1073741824 := by
  intro j hj
  rw [colF_length] at hj
  rw [colF_getD m x hj]
  exact curve_in x v.ax (by rw [colZ_length, hX]) (colZ_in v hj)
theorem value_in {m : Mp} (hX : m.gX_l.length = m.gX_n) (hY : m.gY_l.length = m.gY_n) (v : Vm m) (x y : Int) : -1073741824 ≤ valueF m x y ∧ valueF m x y ≤ 1073741824 :=
  curve_in y v.ay (by rw [colF_length, hY]) (colF_in hX v x)
theorem value_mono {m : Mp} (hX : m.gX_l.length = m.gX_n) (hY : m.gY_l.length = m.gY_n) (h : risesM m = true) {x x' : Int} (y : Int) (hx : x ≤ x') : valueF m x y ≤ valueF m x' y := by
  obtain ⟨hv, hr⟩ := rises_facts h
  obtain ⟨h1, h2, _⟩ := valid_facts hv
  refine curve_mono_y h2 fun j hj => ?_
  rw [colF_getD m x (by omega), colF_getD m x' (by omega)]
  refine curve_mono_x h1 (fun i hi => ?_) hx
  rw [colZ_getD m (by omega), colZ_getD m (by omega)]
  exact hr i (by omega) j (by omega)
theorem value_node {m : Mp} (hX : m.gX_l.length = m.gX_n) (hY : m.gY_l.length = m.gY_n) (ax : axisB m.gX_l = true) (ay : axisB m.gY_l = true) {a b : Nat} (ha : a < m.gX_n) (hb : b < m.gY_n) : valueF m (m.gX_l.getD a 0) (m.gY_l.getD b 0) = zF m a b := by
  unfold valueF
  rw [curve_node ay (by omega), colF_getD m _ hb, curve_node ax (by omega), colZ_getD m ha]
theorem value_left {m : Mp} (hX : m.gX_l.length = m.gX_n) (hY : m.gY_l.length = m.gY_n) (ax : axisB m.gX_l = true) (ay : axisB m.gY_l = true) {x : Int} {b : Nat} (hx : x ≤ m.gX_l.getD 0 0) (hb : b < m.gY_n) : valueF m x (m.gY_l.getD b 0) = zF m 0 b := by
  have := (axis_facts ax).1
  unfold valueF
  rw [curve_node ay (by omega), colF_getD m _ hb, curve_low hx, colZ_getD m (by omega)]
theorem value_right {m : Mp} (hX : m.gX_l.length = m.gX_n) (hY : m.gY_l.length = m.gY_n) (ax : axisB m.gX_l = true) (ay : axisB m.gY_l = true) {x : Int} {b : Nat} (hx : m.gX_l.getD (m.gX_l.length - 1) 0 ≤ x) (hb : b < m.gY_n) : valueF m x (m.gY_l.getD b 0) = zF m (m.gX_n - 1) b := by
  have := (axis_facts ax).1
  unfold valueF
  rw [curve_node ay (by omega), colF_getD m _ hb, curve_high ax hx, hX, colZ_getD m (by omega)]
theorem value_down {m : Mp} (hX : m.gX_l.length = m.gX_n) (hY : m.gY_l.length = m.gY_n) (ax : axisB m.gX_l = true) (ay : axisB m.gY_l = true) {y : Int} {a : Nat} (ha : a < m.gX_n) (hy : y ≤ m.gY_l.getD 0 0) : valueF m (m.gX_l.getD a 0) y = zF m a 0 := by
  have := (axis_facts ay).1
  unfold valueF
  rw [curve_low hy, colF_getD m _ (by omega), curve_node ax (by omega), colZ_getD m ha]
theorem value_up {m : Mp} (hX : m.gX_l.length = m.gX_n) (hY : m.gY_l.length = m.gY_n) (ax : axisB m.gX_l = true) (ay : axisB m.gY_l = true) {y : Int} {a : Nat} (ha : a < m.gX_n) (hy : m.gY_l.getD (m.gY_l.length - 1) 0 ≤ y) : valueF m (m.gX_l.getD a 0) y = zF m a (m.gY_n - 1) := by
  have := (axis_facts ay).1
  unfold valueF
  rw [curve_high ay hy, hY, colF_getD m _ (by omega), curve_node ax (by omega), colZ_getD m ha]
/-- the least point with a value that is great enough -/
def leastF (q : Int → Bool) (n : Int) : Int := (((List.range n.toNat).findIdx (fun k : Nat => q (k : Int)) : Nat) : Int)
theorem least_eq {q : Int → Bool} {n r : Int} (hq : ∀ i j, 0 ≤ i → i ≤ j → j < n → q i = true → q j = true) (h0 : 0 ≤ r ∧ r ≤ n) (h1 : r = 0 ∨ q (r - 1) = false) (h2 : r = n ∨ q r = true) : leastF q n = r := by
  unfold leastF
  have key : (List.range n.toNat).findIdx (fun k : Nat => q (k : Int)) = r.toNat := by
    rcases h2 with h2 | h2
    · subst h2
      refine (List.findIdx_eq_length.2 ?_).trans (by simp : (List.range r.toNat).length = r.toNat)
      intro x hx
      simp only [List.mem_range] at hx
      rcases h1 with h1 | h1
      · omega
      · cases e : q (x : Int) with
        | false => rfl
        | true => rw [hq x (r - 1) (by omega) (by omega) (by omega) e] at h1; cases h1
    · by_cases e : r = n
      · subst e
        refine (List.findIdx_eq_length.2 ?_).trans (by simp : (List.range r.toNat).length = r.toNat)
        intro x hx
        simp only [List.mem_range] at hx
        rcases h1 with h1 | h1
        · omega
        · cases e : q (x : Int) with
          | false => rfl
          | true => rw [hq x (r - 1) (by omega) (by omega) (by omega) e] at h1; cases h1
      · rw [List.findIdx_eq (by simp; omega)]
        simp only [List.getElem_range]
        refine ⟨by rw [show ((r.toNat : Nat) : Int) = r by omega]; exact h2, fun j hj => ?_⟩
        rcases h1 with h1 | h1
        · omega
        · cases e : q (j : Int) with
          | false => rfl
          | true => rw [hq j (r - 1) (by omega) (by omega) (by omega) e] at h1; cases h1
  rw [key]; omega
theorem least_bounds (q : Int → Bool) {n : Int} (h : 0 ≤ n) : 0 ≤ leastF q n ∧ leastF q n ≤ n := by
  unfold leastF
  have := List.findIdx_le_length (p := fun k : Nat => q (k : Int)) (xs := List.range n.toNat)
  simp only [List.length_range] at this
  omega
theorem least_facts {q : Int → Bool} {n : Int} (h : 0 ≤ n) : (leastF q n < n → q (leastF q n) = true) ∧ ∀ i, 0 ≤ i → i < leastF q n → q i = false := by
  unfold leastF
  constructor
  · intro h2
    have h3 : (List.range n.toNat).findIdx (fun k : Nat => q (k : Int)) < (List.range n.toNat).length := by simp; omega
    have := List.findIdx_getElem (p := fun k : Nat => q (k : Int)) (w := h3)
    simpa using this
  · intro i h0 h2
    have := List.not_of_lt_findIdx (p := fun k : Nat => q (k : Int)) (xs := List.range n.toNat) (i := i.toNat) (by omega)
    simp only [List.getElem_range, Int.toNat_of_nonneg h0] at this
    simpa using this

/-- the ends of a range, and the elements of an axis between them -/
def ptsF (l : List Int) (lo hi : Int) : List Int := [lo, hi] ++ l.filter fun x => decide (lo < x) && decide (x < hi)
def minF (d : Int) (l : List Int) : Int := l.foldl min d
def maxF (d : Int) (l : List Int) : Int := l.foldl max d
theorem minF_snoc (d : Int) (l : List Int) (v : Int) : minF d (l ++ [v]) = min (minF d l) v := by simp [minF]
theorem maxF_snoc (d : Int) (l : List Int) (v : Int) : maxF d (l ++ [v]) = max (maxF d l) v := by simp [maxF]
theorem minF_spec (d : Int) (l : List Int) : (minF d l = d ∨ minF d l ∈ l) ∧ minF d l ≤ d ∧ ∀ x ∈ l, minF d l ≤ x := by
  unfold minF
  induction l generalizing d with
  | nil => simp
  | cons a l ih =>
    simp only [List.foldl_cons]
    obtain ⟨h1, h2, h3⟩ := ih (min d a)
    refine ⟨?_, by omega, fun x hx => ?_⟩
    · rcases h1 with h | h
      · rcases Int.le_total d a with e | e
        · left; rw [h]; omega
        · right; rw [h, show min d a = a by omega]; simp
      · right; exact List.mem_cons_of_mem _ h
    · rcases List.mem_cons.1 hx with rfl | hx
      · omega
      · exact h3 x hx
theorem maxF_spec (d : Int) (l : List Int) : (maxF d l = d ∨ maxF d l ∈ l) ∧ d ≤ maxF d l ∧ ∀ x ∈ l, x ≤ maxF d l := by
  unfold maxF
  induction l generalizing d with
  | nil => simp
  | cons a l ih =>
    simp only [List.foldl_cons]
    obtain ⟨h1, h2, h3⟩ := ih (max d a)
    refine ⟨?_, by omega, fun x hx => ?_⟩
    · rcases h1 with h | h
      · rcases Int.le_total a d with e | e
        · left; rw [h]; omega
        · right; rw [h, show max d a = a by omega]; simp
      · right; exact List.mem_cons_of_mem _ h
    · rcases List.mem_cons.1 hx with rfl | hx
      · omega
      · exact h3 x hx
/-- the start does not count, where it is an element, or great enough -/
theorem minF_eq {d e : Int} {l : List Int} (hd : d ∈ l ∨ ∀ x ∈ l, x ≤ d) (he : e ∈ l ∨ ∀ x ∈ l, x ≤ e) (hl : l ≠ []) : minF d l = minF e l := by
  obtain ⟨a1, a2, a3⟩ := minF_spec d l
  obtain ⟨b1, b2, b3⟩ := minF_spec e l
  have mem : ∀ {d : Int}, (d ∈ l ∨ ∀ x ∈ l, x ≤ d) → (minF d l = d ∨ minF d l ∈ l) → minF d l ≤ d → (∀ x ∈ l, minF d l ≤ x) → minF d l ∈ l := by
    intro d h1 h2 h3 h4
    rcases h2 with h2 | h2
    · rcases h1 with h1 | h1
      · rw [h2]; exact h1
      · cases l with
        | nil => exact absurd rfl hl
        | cons x r =>
          have := h1 x (by simp); have := h4 x (by simp)
          rw [show minF d (x :: r) = x by omega]; simp
    · exact h2
  have := b3 _ (mem hd a1 a2 a3)
  have := a3 _ (mem he b1 b2 b3)
  omega
theorem maxF_eq {d e : Int} {l : List Int} (hd : d ∈ l ∨ ∀ x ∈ l, d ≤ x) (he : e ∈ l ∨ ∀ x ∈ l, e ≤ x) (hl : l ≠ []) : maxF d l = maxF e l := by
  obtain ⟨a1, a2, a3⟩ := maxF_spec d l
  obtain ⟨b1, b2, b3⟩ := maxF_spec e l
  have mem : ∀ {d : Int}, (d ∈ l ∨ ∀ x ∈ l, d ≤ x) → (maxF d l = d ∨ maxF d l ∈ l) → d ≤ maxF d l → (∀ x ∈ l, x ≤ maxF d l) → maxF d l ∈ l := by
    intro d h1 h2 h3 h4
    rcases h2 with h2 | h2
    · rcases h1 with h1 | h1
      · rw [h2]; exact h1
      · cases l with
        | nil => exact absurd rfl hl
        | cons x r =>
          have := h1 x (by simp); have := h4 x (by simp)
          rw [show maxF d (x :: r) = x by omega]; simp
    · exact h2
  have := b3 _ (mem hd a1 a2 a3)
  have := a3 _ (mem he b1 b2 b3)
  omega
/-- the values over points -/
def valsF (m : Mp) (xs ys : List Int) : List Int := xs.flatMap fun x => ys.map fun y => valueF m x y
theorem valsF_snoc (m : Mp) (xs : List Int) (x : Int) (ys : List Int) : valsF m (xs ++ [x]) ys = valsF m xs ys ++ ys.map fun y => valueF m x y := by simp [valsF]
theorem take_snoc {l : List Int} {i : Int} (h0 : 0 ≤ i) (h : i < (l.length : Int)) : l.take (i + 1).toNat = l.take i.toNat ++ [l.getD i.toNat 0] := by
  rw [show (i + 1).toNat = i.toNat + 1 by omega, List.take_succ_eq_append_getElem (by omega)]
  simp [List.getD, show i.toNat < l.length by omega]
theorem vals_mem {m : Mp} {xs ys : List Int} {v : Int} : v ∈ valsF m xs ys ↔ ∃ x ∈ xs, ∃ y ∈ ys, valueF m x y = v := by simp [valsF, List.mem_flatMap]
/-- all elements, row by row -/
def allZ (m : Mp) : List Int := m.gZ_l.flatMap Rw.gS_l
def lowF (m : Mp) (a b c d : Int) : Int := max (minF 1073741824 (valsF m (ptsF m.gX_l a b) (ptsF m.gY_l c d)) - 1) (minF (zF m 0 0) (allZ m))
def highF (m : Mp) (a b c d : Int) : Int := min (maxF (-1073741824) (valsF m (ptsF m.gX_l a b) (ptsF m.gY_l c d)) + 1) (maxF (zF m 0 0) (allZ m))
theorem pts_ends (l : List Int) (lo hi : Int) : lo ∈ ptsF l lo hi ∧ hi ∈ ptsF l lo hi := by simp [ptsF]
theorem vals_first {m : Mp} (a b c d : Int) : valueF m a c ∈ valsF m (ptsF m.gX_l a b) (ptsF m.gY_l c d) := vals_mem.2 ⟨a, (pts_ends _ _ _).1, c, (pts_ends _ _ _).1, rfl⟩
theorem vals_in {m : Mp} (hX : m.gX_l.length = m.gX_n) (hY : m.gY_l.length = m.gY_n) (v : Vm m) (xs ys : List Int) : ∀ u ∈ valsF m xs ys, -1073741824 ≤ u ∧ u ≤ 1073741824 := by
  intro u hu
  obtain ⟨x, _, y, _, rfl⟩ := vals_mem.1 hu
  exact value_in hX hY v x y
theorem low_any {m : Mp} (hX : m.gX_l.length = m.gX_n) (hY : m.gY_l.length = m.gY_n) (v : Vm m) (a b c d : Int) : minF (valueF m a c) (valsF m (ptsF m.gX_l a b) (ptsF m.gY_l c d)) = minF 1073741824 (valsF m (ptsF m.gX_l a b) (ptsF m.gY_l c d)) :=
  minF_eq (.inl (vals_first a b c d)) (.inr fun u hu => (vals_in hX hY v _ _ u hu).2) fun h => by have := vals_first (m := m) a b c d; rw [h] at this; cases this
theorem high_any {m : Mp} (hX : m.gX_l.length = m.gX_n) (hY : m.gY_l.length = m.gY_n) (v : Vm m) (a b c d : Int) : maxF (valueF m a c) (valsF m (ptsF m.gX_l a b) (ptsF m.gY_l c d)) = maxF (-1073741824) (valsF m (ptsF m.gX_l a b) (ptsF m.gY_l c d)) :=
  maxF_eq (.inl (vals_first a b c d)) (.inr fun u hu => (vals_in hX hY v _ _ u hu).1) fun h => by have := vals_first (m := m) a b c d; rw [h] at this; cases this
/-- a point in a range lies between two points of the range's list -/
theorem pts_around {l : List Int} {x a b : Int} (ha : a ≤ x) (hb : x ≤ b) : ∃ u v, u ∈ ptsF l a b ∧ v ∈ ptsF l a b ∧ u ≤ x ∧ x ≤ v ∧ ∀ k ∈ l, k ≤ u ∨ v ≤ k := by
  induction l with
  | nil => exact ⟨a, b, by simp [ptsF], by simp [ptsF], ha, hb, by simp⟩
  | cons c l ih =>
    obtain ⟨u, v, h1, h2, h3, h4, h5⟩ := ih
    have sub : ∀ k, k ∈ ptsF l a b → k ∈ ptsF (c :: l) a b := by
      intro k hk
      simp only [ptsF, List.mem_append, List.mem_filter, List.mem_cons] at hk ⊢
      rcases hk with hk | ⟨hk, hk2⟩
      · exact .inl hk
      · exact .inr ⟨.inr hk, hk2⟩
    by_cases e : u < c ∧ c < v
    · have hub : a ≤ u ∧ v ≤ b := by
        simp only [ptsF, List.mem_append, List.mem_filter, List.mem_cons, Bool.and_eq_true, decide_eq_true_eq, List.not_mem_nil, or_false] at h1 h2
        omega
      have hc : c ∈ ptsF (c :: l) a b := by
        simp only [ptsF, List.mem_append, List.mem_filter, List.mem_cons, Bool.and_eq_true, decide_eq_true_eq]
        exact .inr ⟨.inl (by first | rfl | trivial), by omega, by omega⟩
      by_cases hcx : c ≤ x
      · exact ⟨c, v, hc, sub v h2, hcx, h4, fun k hk => by
          rcases List.mem_cons.1 hk with rfl | hk
          · exact .inl (Int.le_refl _)
          · have := h5 k hk; omega⟩
      · exact ⟨u, c, sub u h1, hc, h3, by omega, fun k hk => by
          rcases List.mem_cons.1 hk with rfl | hk
          · exact .inr (Int.le_refl _)
          · have := h5 k hk; omega⟩
    · exact ⟨u, v, sub u h1, sub v h2, h3, h4, fun k hk => by
        rcases List.mem_cons.1 hk with rfl | hk
        · omega
        · exact h5 k hk⟩
theorem btw_anti_x {x0 x1 y0 y1 x x' : Int} (h : x0 < x1) (hx : x ≤ x') (hy : y1 ≤ y0) : btwF x0 x1 y0 y1 x' ≤ btwF x0 x1 y0 y1 x := by
  unfold btwF
  have a1 := Int.mul_le_mul_of_nonpos_right (show x - x0 ≤ x' - x0 by omega) (show y1 - y0 ≤ 0 by omega)
  have := Int.ediv_le_ediv (show 0 < x1 - x0 by omega) a1
  omega
theorem curve_cell {xs : List Int} (ys : List Int) {i : Nat} {z : Int} (ax : axisB xs = true) (a1 : i + 1 < xs.length) (z1 : xs.getD i 0 ≤ z) (z2 : z ≤ xs.getD (i + 1) 0) : curveF xs ys z = btwF (xs.getD i 0) (xs.getD (i + 1) 0) (ys.getD i 0) (ys.getD (i + 1) 0) z := by
  have m := axis_mono ax (show i < i + 1 by omega) a1
  have l0 := axis_le ax (show 0 ≤ i by omega) (by omega)
  have l1 := axis_le ax (show i + 1 ≤ xs.length - 1 by omega) (by omega)
  by_cases z3 : z < xs.getD (i + 1) 0 ∨ i + 2 = xs.length
  · exact curve_seg ax a1 z1 z2 z3 (by omega)
  · have z4 : z = xs.getD (i + 1) 0 := by omega
    rw [z4, curve_node ax a1, btw_right _ _ m]
/-- two points with no node between them lie in one segment, or before the first node, or behind the last one -/
theorem seg_around {xs : List Int} {u x v : Int} (ax : axisB xs = true) (h1 : u < x) (h2 : x < v) (h : ∀ k ∈ xs, k ≤ u ∨ v ≤ k) : v ≤ xs.getD 0 0 ∨ xs.getD (xs.length - 1) 0 ≤ u ∨ ∃ i, i + 1 < xs.length ∧ xs.getD i 0 ≤ u ∧ v ≤ xs.getD (i + 1) 0 := by
  have hl := (axis_facts ax).1
  by_cases e1 : v ≤ xs.getD 0 0
  · exact .inl e1
  by_cases e2 : xs.getD (xs.length - 1) 0 ≤ u
  · exact .inr (.inl e2)
  have mem : ∀ i, i < xs.length → xs.getD i 0 ≤ u ∨ v ≤ xs.getD i 0 := fun i hi => h _ (getD_mem 0 hi)
  have m0 := mem 0 (by omega)
  have ml := mem (xs.length - 1) (by omega)
  obtain ⟨i, x', a1, a2, a3, a4, a5⟩ := seg_exists x ax
  have mi := mem i (by omega)
  have mj := mem (i + 1) a1
  have hx : x' = x := by omega
  subst hx
  exact .inr (.inr ⟨i, a1, by omega, by omega⟩)
/-- between two points with no node between them, a curve lies between its values -/
theorem curve_between {xs ys : List Int} {u x v : Int} (ax : axisB xs = true) (h1 : u ≤ x) (h2 : x ≤ v) (h : ∀ k ∈ xs, k ≤ u ∨ v ≤ k) : min (curveF xs ys u) (curveF xs ys v) ≤ curveF xs ys x ∧ curveF xs ys x ≤ max (curveF xs ys u) (curveF xs ys v) := by
  by_cases e3 : u = x
  · rw [e3]; omega
  by_cases e4 : v = x
  · rw [e4]; omega
  rcases seg_around ax (show u < x by omega) (show x < v by omega) h with e | e | ⟨i, a1, a2, a3⟩
  · rw [curve_low (x := u) (by omega), curve_low (x := x) (by omega), curve_low (x := v) e]; omega
  · rw [curve_high ax (x := u) e, curve_high ax (x := x) (by omega), curve_high ax (x := v) (by omega)]; omega
  · rw [curve_cell ys ax a1 (z := u) a2 (by omega), curve_cell ys ax a1 (z := x) (by omega) (by omega), curve_cell ys ax a1 (z := v) (by omega) a3]
    have m := axis_mono ax (show i < i + 1 by omega) a1
    rcases Int.le_total (ys.getD i 0) (ys.getD (i + 1) 0) with e | e
    · have b1 := btw_mono_x m h1 e
      have b2 := btw_mono_x m h2 e
      omega
    · have b1 := btw_anti_x m h1 e
      have b2 := btw_anti_x m h2 e
      omega
theorem two_floor {p q A B D H : Int} (hp : 0 ≤ p) (hq : 0 ≤ q) (hH : p + q = H) (hH0 : 0 < H) (hD : 0 < D) :
    D * H * ((p * (A / D) + q * (B / D)) / H) ≤ p * A + q * B ∧ p * A + q * B < D * H * ((p * (A / D) + q * (B / D)) / H + 2) := by
  have a1 := Int.mul_ediv_self_le (x := A) (k := D) (by omega)
  have a2 := Int.lt_mul_ediv_self_add (x := A) hD
  have b1 := Int.mul_ediv_self_le (x := B) (k := D) (by omega)
  have b2 := Int.lt_mul_ediv_self_add (x := B) hD
  generalize A / D = u at *
  generalize B / D = v at *
  have t1 := Int.mul_ediv_self_le (x := p * u + q * v) (k := H) (by omega)
  have t2 := Int.lt_mul_ediv_self_add (x := p * u + q * v) hH0
  generalize (p * u + q * v) / H = V at *
  have m1 := Int.mul_le_mul_of_nonneg_left a1 hp
  have m2 := Int.mul_le_mul_of_nonneg_left b1 hq
  have m3 := Int.mul_le_mul_of_nonneg_left t1 (show 0 ≤ D by omega)
  have m4 := Int.mul_le_mul_of_nonneg_left (show A ≤ D * u + D - 1 by omega) hp
  have m5 := Int.mul_le_mul_of_nonneg_left (show B ≤ D * v + D - 1 by omega) hq
  have m6 := Int.mul_le_mul_of_nonneg_left (show p * u + q * v ≤ H * V + H - 1 by omega) (show 0 ≤ D by omega)
  subst hH
  constructor
  · grind
  · grind
/-- 'DH' times the exact value, in a cell -/
def exactF (m : Mp) (i j : Nat) (x y : Int) : Int :=
  (m.gY_l.getD (j + 1) 0 - y) * ((m.gX_l.getD (i + 1) 0 - x) * zF m i j + (x - m.gX_l.getD i 0) * zF m (i + 1) j) + (y - m.gY_l.getD j 0) * ((m.gX_l.getD (i + 1) 0 - x) * zF m i (j + 1) + (x - m.gX_l.getD i 0) * zF m (i + 1) (j + 1))
theorem value_exact {m : Mp} (hX : m.gX_l.length = m.gX_n) (hY : m.gY_l.length = m.gY_n) (v : Vm m) {i j : Nat} {x y y' : Int} (a1 : i + 1 < m.gX_l.length) (a2 : m.gX_l.getD i 0 ≤ x) (a3 : x ≤ m.gX_l.getD (i + 1) 0)
    (b1 : j + 1 < m.gY_l.length) (b2 : m.gY_l.getD j 0 ≤ y') (b3 : y' ≤ m.gY_l.getD (j + 1) 0) (b4 : y' < m.gY_l.getD (j + 1) 0 ∨ j + 2 = m.gY_l.length) (b5 : y' = min (max y (m.gY_l.getD 0 0)) (m.gY_l.getD (m.gY_l.length - 1) 0)) :
    (m.gX_l.getD (i + 1) 0 - m.gX_l.getD i 0) * (m.gY_l.getD (j + 1) 0 - m.gY_l.getD j 0) * valueF m x y ≤ exactF m i j x y' ∧ exactF m i j x y' < (m.gX_l.getD (i + 1) 0 - m.gX_l.getD i 0) * (m.gY_l.getD (j + 1) 0 - m.gY_l.getD j 0) * (valueF m x y + 2) := by
  have mx := axis_mono v.ax (show i < i + 1 by omega) a1
  have my := axis_mono v.ay (show j < j + 1 by omega) b1
  have e : valueF m x y = ((m.gY_l.getD (j + 1) 0 - y') * (((m.gX_l.getD (i + 1) 0 - x) * zF m i j + (x - m.gX_l.getD i 0) * zF m (i + 1) j) / (m.gX_l.getD (i + 1) 0 - m.gX_l.getD i 0)) + (y' - m.gY_l.getD j 0) * (((m.gX_l.getD (i + 1) 0 - x) * zF m i (j + 1) + (x - m.gX_l.getD i 0) * zF m (i + 1) (j + 1)) / (m.gX_l.getD (i + 1) 0 - m.gX_l.getD i 0))) / (m.gY_l.getD (j + 1) 0 - m.gY_l.getD j 0) := by
    unfold valueF
    rw [curve_seg v.ay b1 b2 b3 b4 b5, colF_getD m x (by omega), colF_getD m x (by omega), curve_cell _ v.ax a1 a2 a3, curve_cell _ v.ax a1 a2 a3, btw_form my, btw_form mx, btw_form mx,
      colZ_getD m (by omega), colZ_getD m (by omega), colZ_getD m (by omega), colZ_getD m (by omega)]
  rw [e]
  unfold exactF
  exact two_floor (by omega) (by omega) (by omega) (by omega) (by omega)
theorem value_spread {m : Mp} (hX : m.gX_l.length = m.gX_n) (hY : m.gY_l.length = m.gY_n) (vm : Vm m) {u x v : Int} (y : Int) (h1 : u ≤ x) (h2 : x ≤ v) (h : ∀ k ∈ m.gX_l, k ≤ u ∨ v ≤ k) :
    min (valueF m u y) (valueF m v y) - 1 ≤ valueF m x y ∧ valueF m x y ≤ max (valueF m u y) (valueF m v y) + 1 := by
  by_cases e3 : u = x
  · rw [e3]; omega
  by_cases e4 : v = x
  · rw [e4]; omega
  have low : ∀ z, z ≤ m.gX_l.getD 0 0 → colF m z = colF m (m.gX_l.getD 0 0) := fun z hz => List.map_congr_left fun j _ => by rw [curve_low hz, curve_low (Int.le_refl _)]
  have high : ∀ z, m.gX_l.getD (m.gX_l.length - 1) 0 ≤ z → colF m z = colF m (m.gX_l.getD (m.gX_l.length - 1) 0) := fun z hz => List.map_congr_left fun j _ => by rw [curve_high vm.ax hz, curve_high vm.ax (Int.le_refl _)]
  rcases seg_around vm.ax (show u < x by omega) (show x < v by omega) h with e | e | ⟨i, a1, a2, a3⟩
  · unfold valueF; rw [low u (by omega), low x (by omega), low v e]; omega
  · unfold valueF; rw [high u e, high x (by omega), high v (by omega)]; omega
  · obtain ⟨j, y', b1, b2, b3, b4, b5⟩ := seg_exists y vm.ay
    have mx := axis_mono vm.ax (show i < i + 1 by omega) a1
    have my := axis_mono vm.ay (show j < j + 1 by omega) b1
    obtain ⟨u1, u2⟩ := value_exact hX hY vm a1 a2 (show u ≤ _ by omega) b1 b2 b3 b4 b5
    obtain ⟨x1, x2⟩ := value_exact hX hY vm a1 (show _ ≤ x by omega) (show x ≤ _ by omega) b1 b2 b3 b4 b5
    obtain ⟨v1, v2⟩ := value_exact hX hY vm a1 (show _ ≤ v by omega) a3 b1 b2 b3 b4 b5
    obtain ⟨c, hc⟩ : ∃ c, c = (m.gY_l.getD (j + 1) 0 - y') * (zF m (i + 1) j - zF m i j) + (y' - m.gY_l.getD j 0) * (zF m (i + 1) (j + 1) - zF m i (j + 1)) := ⟨_, rfl⟩
    have lin : ∀ z z', exactF m i j z' y' - exactF m i j z y' = (z' - z) * c := by intro z z'; unfold exactF; rw [hc]; grind
    have hDH := Int.mul_pos (show 0 < m.gX_l.getD (i + 1) 0 - m.gX_l.getD i 0 by omega) (show 0 < m.gY_l.getD (j + 1) 0 - m.gY_l.getD j 0 by omega)
    generalize (m.gX_l.getD (i + 1) 0 - m.gX_l.getD i 0) * (m.gY_l.getD (j + 1) 0 - m.gY_l.getD j 0) = DH at *
    have l1 := lin u x
    have l2 := lin x v
    generalize exactF m i j u y' = Fu at *
    generalize exactF m i j x y' = Fx at *
    generalize exactF m i j v y' = Fv at *
    generalize valueF m u y = Vu at *
    generalize valueF m x y = Vx at *
    generalize valueF m v y = Vv at *
    have le : ∀ {a b : Int}, DH * a < DH * b → a < b := fun h => Int.lt_of_mul_lt_mul_left h (by omega)
    rcases Int.le_total 0 c with hc0 | hc0
    · have s1 := Int.mul_nonneg (show 0 ≤ x - u by omega) hc0
      have s2 := Int.mul_nonneg (show 0 ≤ v - x by omega) hc0
      have q1 := le (show DH * Vu < DH * (Vx + 2) by omega)
      have q2 := le (show DH * Vx < DH * (Vv + 2) by omega)
      omega
    · have s1 := Int.mul_nonpos_of_nonneg_of_nonpos (show 0 ≤ x - u by omega) hc0
      have s2 := Int.mul_nonpos_of_nonneg_of_nonpos (show 0 ≤ v - x by omega) hc0
      have q1 := le (show DH * Vv < DH * (Vx + 2) by omega)
      have q2 := le (show DH * Vx < DH * (Vu + 2) by omega)
      omega
/-- the value lies in the range over any ranges with the point -/
theorem value_over {m : Mp} (hX : m.gX_l.length = m.gX_n) (hY : m.gY_l.length = m.gY_n) (vm : Vm m) {x y a b c d : Int} (ha : a ≤ x) (hb : x ≤ b) (hc : c ≤ y) (hd : y ≤ d) :
    minF 1073741824 (valsF m (ptsF m.gX_l a b) (ptsF m.gY_l c d)) - 1 ≤ valueF m x y ∧ valueF m x y ≤ maxF (-1073741824) (valsF m (ptsF m.gX_l a b) (ptsF m.gY_l c d)) + 1 := by
  obtain ⟨u, v, h1, h2, h3, h4, h5⟩ := pts_around (l := m.gX_l) ha hb
  obtain ⟨s, t, k1, k2, k3, k4, k5⟩ := pts_around (l := m.gY_l) hc hd
  have sp := value_spread hX hY vm y h3 h4 h5
  have bu : min (valueF m u s) (valueF m u t) ≤ valueF m u y ∧ valueF m u y ≤ max (valueF m u s) (valueF m u t) := curve_between vm.ay k3 k4 k5
  have bv : min (valueF m v s) (valueF m v t) ≤ valueF m v y ∧ valueF m v y ≤ max (valueF m v s) (valueF m v t) := curve_between vm.ay k3 k4 k5
  obtain ⟨_, _, n3⟩ := minF_spec 1073741824 (valsF m (ptsF m.gX_l a b) (ptsF m.gY_l c d))
  obtain ⟨_, _, x3⟩ := maxF_spec (-1073741824) (valsF m (ptsF m.gX_l a b) (ptsF m.gY_l c d))
  have mem : ∀ p ∈ ptsF m.gX_l a b, ∀ q ∈ ptsF m.gY_l c d, valueF m p q ∈ valsF m (ptsF m.gX_l a b) (ptsF m.gY_l c d) := fun p hp q hq => vals_mem.2 ⟨p, hp, q, hq, rfl⟩
  have n1 := n3 _ (mem u h1 s k1); have n2 := n3 _ (mem u h1 t k2); have n4 := n3 _ (mem v h2 s k1); have n5 := n3 _ (mem v h2 t k2)
  have x1 := x3 _ (mem u h1 s k1); have x2 := x3 _ (mem u h1 t k2); have x4 := x3 _ (mem v h2 s k1); have x5 := x3 _ (mem v h2 t k2)
  omega
theorem allZ_mem {m : Mp} {i j : Nat} (hi : i < m.gZ_l.length) (hj : j < (m.gZ_l.getD i rw0).gS_l.length) : zF m i j ∈ allZ m :=
  List.mem_flatMap.2 ⟨_, getD_mem rw0 hi, getD_mem 0 hj⟩
theorem value_all {m : Mp} (hX : m.gX_l.length = m.gX_n) (hY : m.gY_l.length = m.gY_n) (vm : Vm m) (hz : ∀ i, i < m.gX_n → ∀ j, j < m.gY_n → zF m i j ∈ allZ m) (x y : Int) : minF (zF m 0 0) (allZ m) ≤ valueF m x y ∧ valueF m x y ≤ maxF (zF m 0 0) (allZ m) := by
  obtain ⟨_, _, n3⟩ := minF_spec (zF m 0 0) (allZ m)
  obtain ⟨_, _, x3⟩ := maxF_spec (zF m 0 0) (allZ m)
  refine curve_in y vm.ay (by rw [colF_length, hY]) fun j hj => ?_
  rw [colF_length] at hj
  rw [colF_getD m x hj]
  refine curve_in x vm.ax (by rw [colZ_length, hX]) fun i hi => ?_
  rw [colZ_length] at hi
  rw [colZ_getD m hi]
  exact ⟨n3 _ (hz i hi j hj), x3 _ (hz i hi j hj)⟩
/-- the elements of the cell around a point -/
theorem curve_around {xs ys : List Int} {x : Int} {i : Nat} (ax : axisB xs = true) (a1 : i + 1 < xs.length) (a2 : i = 0 ∨ xs.getD i 0 ≤ x) (a3 : x < xs.getD (i + 1) 0 ∨ i + 2 = xs.length) : min (ys.getD i 0) (ys.getD (i + 1) 0) ≤ curveF xs ys x ∧ curveF xs ys x ≤ max (ys.getD i 0) (ys.getD (i + 1) 0) := by
  have m := axis_mono ax (show i < i + 1 by omega) a1
  have l0 := axis_le ax (show 0 ≤ i by omega) (by omega)
  have l1 := axis_le ax (show i + 1 ≤ xs.length - 1 by omega) (by omega)
  obtain ⟨x', hx⟩ : ∃ x', x' = min (max x (xs.getD 0 0)) (xs.getD (xs.length - 1) 0) := ⟨_, rfl⟩
  have e1 : xs.getD i 0 ≤ x' := by
    rcases a2 with a2 | a2
    · subst a2; omega
    · omega
  have e2 : x' ≤ xs.getD (i + 1) 0 := by
    rcases a3 with a3 | a3
    · omega
    · rw [show xs.length - 1 = i + 1 by omega] at hx; omega
  have e3 : x' < xs.getD (i + 1) 0 ∨ i + 2 = xs.length := by omega
  rw [curve_seg ax a1 e1 e2 e3 hx]
  obtain ⟨c1, c2⟩ := btw_bounds (y0 := ys.getD i 0) (y1 := ys.getD (i + 1) 0) m e1 e2
  omega
theorem value_around {m : Mp} (hX : m.gX_l.length = m.gX_n) (hY : m.gY_l.length = m.gY_n) (vm : Vm m) {x y : Int} {i j : Nat} (a1 : i + 1 < m.gX_l.length) (a2 : i = 0 ∨ m.gX_l.getD i 0 ≤ x) (a3 : x < m.gX_l.getD (i + 1) 0 ∨ i + 2 = m.gX_l.length)
    (b1 : j + 1 < m.gY_l.length) (b2 : j = 0 ∨ m.gY_l.getD j 0 ≤ y) (b3 : y < m.gY_l.getD (j + 1) 0 ∨ j + 2 = m.gY_l.length) :
    min (min (zF m i j) (zF m (i + 1) j)) (min (zF m i (j + 1)) (zF m (i + 1) (j + 1))) ≤ valueF m x y ∧ valueF m x y ≤ max (max (zF m i j) (zF m (i + 1) j)) (max (zF m i (j + 1)) (zF m (i + 1) (j + 1))) := by
  have h := curve_around (ys := colF m x) vm.ay b1 b2 b3
  rw [colF_getD m x (by omega), colF_getD m x (by omega)] at h
  have h1 := curve_around (ys := colZ m j) vm.ax a1 a2 a3
  have h2 := curve_around (ys := colZ m (j + 1)) vm.ax a1 a2 a3
  rw [colZ_getD m (by omega), colZ_getD m (by omega)] at h1 h2
  unfold valueF
  omega

end Go.Proofs.Ytempepmfifljmaa
