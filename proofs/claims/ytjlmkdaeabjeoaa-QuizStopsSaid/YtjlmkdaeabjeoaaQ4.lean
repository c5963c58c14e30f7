/- Walks of functions of this seat, printed by a program over the engine. Conditions: as each theorem says. -/
import Derived.Test.YtjlmkdaeabjeoaaQ3
namespace Go.Proofs.Ytjlmkdaeabjeoaa
open Go.Eng Go.RowKit
set_option linter.unusedSimpArgs false
set_option linter.unusedVariables false
theorem xorF_bounds {m : Int} (h : 0 ≤ m ∧ m ≤ 32767) : 32768 ≤ xorF m ∧ xorF m ≤ 65535 := by
  obtain ⟨k, rfl⟩ : ∃ k : Nat, m = k := ⟨m.toNat, by omega⟩
  have h1 : (BitVec.ofInt 64 (k : Int) ^^^ BitVec.ofInt 64 (46080 : Int)).toNat = k ^^^ 46080 := by
    rw [BitVec.toNat_xor, BitVec.ofInt_natCast, BitVec.toNat_ofNat, Nat.mod_eq_of_lt (by omega)]; rfl
  have h2 : k ^^^ 46080 < 2 ^ 16 := Nat.xor_lt_two_pow (by omega) (by omega)
  have h3 : 2 ^ 15 ≤ k ^^^ 46080 := by
    refine Nat.ge_two_pow_of_testBit ?_
    rw [Nat.testBit_xor, Nat.testBit_lt_two_pow (show k < 2 ^ 15 by omega)]; decide
  unfold xorF
  rw [h1, IntWalk.i64_in _ (by omega)]; omega
theorem nextF_bounds {n : Int} (h : 1 ≤ n ∧ n ≤ 65535) : 1 ≤ nextF n ∧ nextF n ≤ 65535 := by
  unfold nextF
  split
  · have := xorF_bounds (m := n / 2) (by omega); omega
  · omega
theorem valid_of {q a e : Int} {o f : Bool} (hq : 1 ≤ q ∧ q ≤ 65535) (ha : 0 ≤ a ∧ a ≤ 1099511627776) (ho : o = true ∨ a = 0) (he : 0 ≤ e ∧ e ≤ 6) (hf : f = false) : validB q a e o f = true := by
  subst hf
  have h1 : questionB q = true := questionB_iff.2 hq
  have h2 : instantB a = true := instantB_iff.2 ha
  have h3 : (e == 7) = false := beq_eq_false_iff_ne.2 (by omega)
  simp [validB, h1, h2, h3, ho]; omega
theorem replyR_true {q a now x : Int} {l : List Int} (h1 : ansF q l = x) (h2 : 10000 ≤ now - a) (h3 : now - a ≤ 20000) : replyR q a now x l = true := by
  simp [replyR, h1, h2, h3]
theorem replyR_false {q a now x : Int} {l : List Int} (h1 : ansF q l ≠ x ∨ now - a < 10000 ∨ 20000 < now - a) : replyR q a now x l = false := by
  rcases h1 with h | h | h
  · simp [replyR, h]
  · simp [replyR]; omega
  · simp [replyR]; omega
theorem parts_three {a b c : Int} (ha : 0 ≤ a ∧ a ≤ 65535) (hb : 0 ≤ b ∧ b ≤ 65535) (hc : 0 ≤ c ∧ c ≤ 65535) : partsB [a, b, c] = true := by
  have h1 := wordB_iff.2 ha; have h2 := wordB_iff.2 hb; have h3 := wordB_iff.2 hc
  simp [partsB, h1, h2, h3]
theorem parts_one {a : Int} (ha : 0 ≤ a ∧ a ≤ 65535) : partsB [a] = true := by
  have h1 := wordB_iff.2 ha
  simp [partsB, h1]
theorem endT {e : Int} (h : 0 ≤ e ∧ e ≤ 7) : endE e true = max 0 (e - 1) ∧ 0 ≤ endE e true := by simp [endE]; omega
theorem endF {e : Int} (h : 0 ≤ e ∧ e ≤ 7) : endE e false = min 7 (e + 2) ∧ endE e false ≤ 7 := by simp [endE]; omega
theorem hb6 : HasBody Try.prog 6 := fun _ _ => by kernel_rfl
noncomputable def K6_0 : List Item := adv 7 [] (bodyOf Try.f6)
noncomputable def K6_1 : List Item := adv 6 [] (popK K6_0)
noncomputable def K6_2 : List Item := adv 8 [true] K6_1
noncomputable def K6_3 : List Item := adv 2 [] (popK K6_2)
noncomputable def K6_4 : List Item := adv 5 [] K6_1
noncomputable def K6_5 : List Item := adv 3 [true] K6_4
noncomputable def K6_6 : List Item := adv 2 [] (popK K6_5)
noncomputable def K6_7 : List Item := adv 6 [false] K6_4
noncomputable def K6_8 : List Item := adv 2 [] K6_7
noncomputable def K6_9 : List Item := adv 1 [] K6_8
noncomputable def K6_10 : List Item := adv 1 [] K6_9
noncomputable def K6_11 : List Item := adv 14 [] (popK (popK K6_10))
noncomputable def K6_12 : List Item := adv 5 [] K6_11
noncomputable def K6_13 : List Item := adv 7 [true] K6_12
noncomputable def K6_14 : List Item := adv 6 [] (popK (popK K6_13))
noncomputable def K6_15 : List Item := adv 4 [] (popK K6_14)
noncomputable def K6_16 : List Item := adv 1 [] (popK K6_15)
noncomputable def K6_17 : List Item := adv 4 [] (popK K6_16)
noncomputable def K6_18 : List Item := adv 11 [] (popK (popK K6_17))
noncomputable def K6_19 : List Item := adv 1 [] (popK (popK K6_18))
noncomputable def K6_20 : List Item := adv 3 [] K6_19
noncomputable def K6_21 : List Item := adv 2 [] (popK K6_20)
noncomputable def K6_22 : List Item := adv 3 [] K6_21
noncomputable def K6_23 : List Item := adv 4 [] (popK K6_22)
noncomputable def K6_24 : List Item := adv 2 [] (popK K6_23)
noncomputable def K6_25 : List Item := adv 9 [false] K6_24
noncomputable def K6_26 : List Item := adv 1 [] K6_25
noncomputable def K6_27 : List Item := adv 1 [] K6_26
noncomputable def K6_28 : List Item := adv 1 [] K6_27
noncomputable def K6_29 : List Item := adv 6 [] K6_28
noncomputable def K6_30 : List Item := adv 1 [] K6_29
noncomputable def K6_31 : List Item := adv 6 [] (popK K6_30)
noncomputable def K6_32 : List Item := adv 8 [] (popK K6_31)
noncomputable def K6_33 : List Item := adv 1 [] (popK K6_32)
noncomputable def K6_34 : List Item := adv 3 [] (popK K6_33)
noncomputable def K6_35 : List Item := adv 4 [] (popK (popK K6_34))
noncomputable def K6_36 : List Item := adv 3 [] (popK K6_35)
noncomputable def K6_37 : List Item := adv 3 [] (popK K6_36)
noncomputable def K6_38 : List Item := adv 16 [] (popK (popK K6_37))
noncomputable def K6_39 : List Item := adv 3 [] (popK (popK (popK K6_38)))
noncomputable def K6_40 : List Item := adv 3 [] (popK K6_39)
noncomputable def K6_41 : List Item := adv 2 [] (popK K6_40)
noncomputable def K6_42 : List Item := adv 1 [] K6_41
noncomputable def K6_43 : List Item := adv 2 [] (popK K6_42)
noncomputable def K6_44 : List Item := adv 1 [] K6_43
noncomputable def K6_45 : List Item := adv 3 [] K6_44
noncomputable def K6_46 : List Item := adv 4 [false] K6_45
noncomputable def K6_47 : List Item := adv 5 [] (popK (popK K6_46))
noncomputable def K6_48 : List Item := adv 1 [] K6_47
noncomputable def K6_49 : List Item := adv 1 [] K6_48
noncomputable def K6_50 : List Item := adv 5 [] K6_49
noncomputable def K6_51 : List Item := adv 8 [false] K6_12
noncomputable def K6_52 : List Item := adv 6 [] K6_51
noncomputable def K6_53 : List Item := adv 1 [] K6_51
noncomputable def K6_54 : List Item := adv 4 [] (popK K6_53)
set_option maxRecDepth 20000 in
set_option maxHeartbeats 20000000 in
theorem honest_any (seed errors : Int) (pa : Option Addr) (len cap : Nat) (l : List Int) (w : World) (hP : Ones (Value.int .u16) w pa len l) (hlen : len ≤ 9223372036854775807) (hpl : ∀ j, 0 ≤ l.getD j 0 ∧ l.getD j 0 ≤ 65535) (hs : 0 ≤ seed ∧ seed ≤ 65535) (he : 0 ≤ errors ∧ errors ≤ 255) : Ret Try.prog 6 #[.int .u16 seed, .int .u8 errors, .slice pa len cap] w (fun v w' => v = .bool true ∧ Sep w [] w') := by
  have S0 := Sep.refl w
  refine Ret.named fun R hR => ?_
  refine Ret.of_J (N := 158) [(0, .int .u16 seed), (1, .int .u8 errors), (2, .slice pa len cap)] Try.func6 rfl rfl (Nat.le_of_ble_eq_true (by kernel_rfl)) (by kernel_rfl) ?_
  refine J.run 7 K6_0 [(0, .int .u16 seed), (1, .int .u8 errors), (2, .slice pa len cap)] w (by kernel_rfl) ?_
  refine J.callF 22 9 #[] hb9 (by kernel_rfl) (awake_any  _) ?_
  rintro _ w1 ⟨rfl, T1⟩
  have S1 : Sep w [] w1 := S0.trans T1
  clear T1
  refine J.run 6 K6_1 [(28, .bool (seed == 0)), (0, .int .u16 seed), (1, .int .u8 errors), (2, .slice pa len cap)] w1 (by kernel_rfl) ?_
  by_cases fk1 : seed = 0
  · skip
    refine J.head (.bool true) (congrArg Value.bool (beq_iff_eq.2 fk1)) ?_
    refine J.run 8 K6_2 [] w1 (by kernel_rfl) ?_
    refine J.callF 33 9 #[] hb9 (by kernel_rfl) (awake_any  _) ?_
    rintro _ w2 ⟨rfl, T2⟩
    have S2 : Sep w [] w2 := S1.trans T2
    clear T2 S1
    refine J.run 2 K6_3 [(6, .bool true)] w2 (by kernel_rfl) ?_
    refine J.ret Try.f6 [.bool true] Try.func6 ⟨by kernel_rfl, trivial⟩ ?_
    refine hR _ _ ?_
    exact ⟨rfl, S2.nil⟩
  · skip
    refine J.head (.bool false) (congrArg Value.bool (beq_eq_false_iff_ne.2 fk1)) ?_
    refine J.run 5 K6_4 [(32, .bool (decide ((len : Int) > 60))), (0, .int .u16 seed), (1, .int .u8 errors), (2, .slice pa len cap)] w1 (by kernel_rfl) ?_
    by_cases fk2 : (len : Int) > 60
    · skip
      refine J.head (.bool true) (congrArg Value.bool (decide_eq_true fk2)) ?_
      refine J.run 3 K6_5 [] w1 (by kernel_rfl) ?_
      refine J.callF 33 9 #[] hb9 (by kernel_rfl) (awake_any  _) ?_
      rintro _ w3 ⟨rfl, T3⟩
      have S3 : Sep w [] w3 := S1.trans T3
      clear T3 S1
      refine J.run 2 K6_6 [(6, .bool true)] w3 (by kernel_rfl) ?_
      refine J.ret Try.f6 [.bool true] Try.func6 ⟨by kernel_rfl, trivial⟩ ?_
      refine hR _ _ ?_
      exact ⟨rfl, S3.nil⟩
    · skip
      refine J.head (.bool false) (congrArg Value.bool (decide_eq_false fk2)) ?_
      refine J.run 6 K6_7 [(35, .int .i64 (IntKind.wrap .i64 seed)), (1, .int .u8 errors), (2, .slice pa len cap)] w1 (by kernel_rfl) ?_
      refine J.head (.int .i64 seed) (congrArg (Value.int .i64) (IntWalk.i64_in _ (by omega))) ?_
      refine J.run 2 K6_8 [(37, .int .i64 (IntKind.wrap .i64 errors)), (35, .int .i64 seed), (2, .slice pa len cap)] w1 (by kernel_rfl) ?_
      refine J.head (.int .i64 errors) (congrArg (Value.int .i64) (IntWalk.i64_in _ (by omega))) ?_
      refine J.run 1 K6_9 [(38, .int .i64 (Int.tmod errors 7)), (35, .int .i64 seed), (2, .slice pa len cap)] w1 (by kernel_rfl) ?_
      refine J.head (.int .i64 (errors % 7)) (congrArg (Value.int .i64) (IntWalk.rem_in _ _ (by omega))) ?_
      refine J.run 1 K6_10 [(39, .agg #[.int .i64 seed, .int .i64 0, .int .i64 (errors % 7), .bool false, .bool false]), (2, .slice pa len cap)] w1 (by kernel_rfl) ?_
      refine J.new S1 7 [.int .i64 0, .int .i64 0, .int .i64 0, .bool false, .bool false] 31 (by kernel_rfl) ?_
      intro b1 w4 S4
      refine J.stBox S4 0 31 0 (.agg #[.int .i64 seed, .int .i64 0, .int .i64 (errors % 7), .bool false, .bool false]) [.int .i64 seed, .int .i64 0, .int .i64 (errors % 7), .bool false, .bool false] [box b1 [.int .i64 seed, .int .i64 0, .int .i64 (errors % 7), .bool false, .bool false] 31] (by kernel_rfl) rfl (by kernel_rfl) (by kernel_rfl) rfl ?_
      intro w5 S5
      refine J.run 14 K6_11 [(42, .int .i64 0), (41, .int .i64 (len : Int)), (40, .slice pa len cap), (8, .int .i64 0), (7, .pointer (some ⟨b1, 0, none⟩)), (2, .slice pa len cap)] w5 (by kernel_rfl) ?_
      have L6_1 : ∀ (m : Nat) (q : Int) (e : Int) (f : Bool) (now : Int) (i : Int) (w6 : World), (0 ≤ i) → (i ≤ (len : Int)) → (0 ≤ now ∧ now ≤ i * 30000) → (1 ≤ q ∧ q ≤ 65535) → (0 ≤ e ∧ e ≤ 6 ∧ (e = 0 ∨ e + i ≤ 6)) → (f = false) → Sep w [box b1 [.int .i64 q, .int .i64 0, .int .i64 e, .bool false, .bool f] 31] w6 → ((len : Int) - i).toNat = m → J Try.prog 6 158 R K6_11 [(42, .int .i64 i), (41, .int .i64 (len : Int)), (40, .slice pa len cap), (8, .int .i64 now), (7, .pointer (some ⟨b1, 0, none⟩)), (2, .slice pa len cap)] w6 := by
        intro m
        induction m using Nat.strongRecOn with
        | _ m ih1 =>
        intro q e f now i w6 h0 h1 hn hq hee hf S6 hm1
        have hpl2 := hpl i.toNat
        have hend := endT (e := e) (by omega)
        have hnx := nextF_bounds hq
        refine J.run 5 K6_12 [(43, .bool (decide (i < (len : Int)))), (42, .int .i64 i), (41, .int .i64 (len : Int)), (40, .slice pa len cap), (8, .int .i64 now), (7, .pointer (some ⟨b1, 0, none⟩)), (2, .slice pa len cap)] w6 (by kernel_rfl) ?_
        by_cases fk3 : i < (len : Int)
        · skip
          refine J.head (.bool true) (congrArg Value.bool (decide_eq_true fk3)) ?_
          refine J.run 7 K6_13 [(44, .int .i64 i), (42, .int .i64 i), (41, .int .i64 (len : Int)), (40, .slice pa len cap), (8, .int .i64 now), (7, .pointer (some ⟨b1, 0, none⟩)), (2, .slice pa len cap)] w6 (by kernel_rfl) ?_
          obtain ⟨p1, hp1, hc1⟩ := hP.at 0 (i).toNat (by omega)
          refine J.ok (OK.index 45 23 1 pa p1 len (i).toNat i (p1.add (i).toNat) (by kernel_rfl) (by kernel_rfl) hp1 (by omega) (by omega) (by rw [Nat.mul_one])) ?_
          refine J.ok (OK.ldCell 46 22 (p1.add (i).toNat) (.int .u16 (l.getD (i).toNat 0)) (by kernel_rfl) (by kernel_rfl) (S6.cell hc1)) ?_
          refine J.run 6 K6_14 [(47, .pointer (some ⟨b1, 2, none⟩)), (10, .int .u16 (l.getD (i).toNat 0)), (9, .int .i64 i), (42, .int .i64 i), (41, .int .i64 (len : Int)), (40, .slice pa len cap), (8, .int .i64 now), (7, .pointer (some ⟨b1, 0, none⟩)), (2, .slice pa len cap)] w6 (by kernel_rfl) ?_
          refine J.ok (OK.ldBox S6 0 48 3 2 (.int .i64 e) (by kernel_rfl) rfl (by kernel_rfl)) ?_
          refine J.run 4 K6_15 [(11, .int .i64 e), (10, .int .u16 (l.getD (i).toNat 0)), (9, .int .i64 i), (42, .int .i64 i), (41, .int .i64 (len : Int)), (40, .slice pa len cap), (8, .int .i64 now), (7, .pointer (some ⟨b1, 0, none⟩)), (2, .slice pa len cap)] w6 (by kernel_rfl) ?_
          refine J.ok (OK.ldBox S6 0 50 31 0 (.agg #[.int .i64 q, .int .i64 0, .int .i64 e, .bool false, .bool f]) (by kernel_rfl) rfl (by kernel_rfl)) ?_
          refine J.run 1 K6_16 [(51, .int .i64 now), (50, .agg #[.int .i64 q, .int .i64 0, .int .i64 e, .bool false, .bool f]), (11, .int .i64 e), (10, .int .u16 (l.getD (i).toNat 0)), (9, .int .i64 i), (42, .int .i64 i), (41, .int .i64 (len : Int)), (40, .slice pa len cap), (8, .int .i64 now), (7, .pointer (some ⟨b1, 0, none⟩)), (2, .slice pa len cap)] w6 (by kernel_rfl) ?_
          have fk4 : (validB q 0 e false f) = true := valid_of (by omega) (by omega) (.inr rfl) (by omega) hf
          have fk5 : (instantB now) = true := instantB_iff.2 (by omega)
          have fk6 : f = false := hf
          refine J.callF 52 17 #[.agg #[.int .i64 q, .int .i64 0, .int .i64 e, .bool false, .bool f], .int .i64 now] hb17 (by kernel_rfl) (ask_any q 0 e false f now _) ?_
          rintro _ w7 ⟨rfl, T4⟩
          have S7 : Sep w [box b1 [.int .i64 q, .int .i64 0, .int .i64 e, .bool false, .bool f] 31] w7 := S6.trans T4
          clear T4 S6
          refine J.head (.tuple #[.agg #[.int .i64 (nextF q), .int .i64 now, .int .i64 e, .bool true, .bool false], .int .i64 (nextF q), .int .i64 0]) (by (try simp only [askV, zeroQ, fk4, fk5]) <;> simp [askV, zeroQ, fk4, fk5, fk6]) ?_
          refine J.run 4 K6_17 [(55, .int .i64 0), (54, .int .i64 (nextF q)), (53, .agg #[.int .i64 (nextF q), .int .i64 now, .int .i64 e, .bool true, .bool false]), (11, .int .i64 e), (10, .int .u16 (l.getD (i).toNat 0)), (9, .int .i64 i), (42, .int .i64 i), (41, .int .i64 (len : Int)), (40, .slice pa len cap), (8, .int .i64 now), (7, .pointer (some ⟨b1, 0, none⟩)), (2, .slice pa len cap)] w7 (by kernel_rfl) ?_
          refine J.new S7 12 [.int .i64 0, .int .i64 0, .int .i64 0, .bool false, .bool false] 31 (by kernel_rfl) ?_
          intro b2 w8 S8
          refine J.stBox S8 0 31 0 (.agg #[.int .i64 (nextF q), .int .i64 now, .int .i64 e, .bool true, .bool false]) [.int .i64 (nextF q), .int .i64 now, .int .i64 e, .bool true, .bool false] [box b2 [.int .i64 (nextF q), .int .i64 now, .int .i64 e, .bool true, .bool false] 31, box b1 [.int .i64 q, .int .i64 0, .int .i64 e, .bool false, .bool f] 31] (by kernel_rfl) rfl (by kernel_rfl) (by kernel_rfl) rfl ?_
          intro w9 S9
          refine J.run 11 K6_18 [(60, .pointer (some ⟨b1, 0, none⟩)), (59, .int .i64 (nextF q)), (58, .bool false), (13, .int .i64 (nextF q)), (12, .pointer (some ⟨b2, 0, none⟩)), (11, .int .i64 e), (10, .int .u16 (l.getD (i).toNat 0)), (9, .int .i64 i), (42, .int .i64 i), (41, .int .i64 (len : Int)), (40, .slice pa len cap), (8, .int .i64 now), (7, .pointer (some ⟨b1, 0, none⟩)), (2, .slice pa len cap)] w9 (by kernel_rfl) ?_
          refine J.ok (OK.ldBox S9 1 61 3 0 (.int .i64 q) (by kernel_rfl) rfl (by kernel_rfl)) ?_
          have fk7 : (questionB q) = true := questionB_iff.2 (by omega)
          refine J.callF 62 12 #[.int .i64 q] hb12 (by kernel_rfl) (next_any q _) ?_
          rintro _ w10 ⟨rfl, T5⟩
          have S10 : Sep w [box b2 [.int .i64 (nextF q), .int .i64 now, .int .i64 e, .bool true, .bool false] 31, box b1 [.int .i64 q, .int .i64 0, .int .i64 e, .bool false, .bool f] 31] w10 := S9.trans T5
          clear T5 S9
          refine J.head (.int .i64 (nextF q)) (by first | (simp only [nextV, fk7, reduceCtorEq, ↓reduceIte]; done) | simp [nextV, fk7]) ?_
          refine J.run 1 K6_19 [(63, .bool ((nextF q) != (nextF q))), (58, .bool false), (13, .int .i64 (nextF q)), (12, .pointer (some ⟨b2, 0, none⟩)), (11, .int .i64 e), (10, .int .u16 (l.getD (i).toNat 0)), (9, .int .i64 i), (42, .int .i64 i), (41, .int .i64 (len : Int)), (40, .slice pa len cap), (8, .int .i64 now), (7, .pointer (some ⟨b1, 0, none⟩)), (2, .slice pa len cap)] w10 (by kernel_rfl) ?_
          refine J.head (.bool false) (congrArg Value.bool (by simp)) ?_
          refine J.run 3 K6_20 [(66, .pointer (some ⟨b2, 0, none⟩)), (65, .bool false), (13, .int .i64 (nextF q)), (12, .pointer (some ⟨b2, 0, none⟩)), (11, .int .i64 e), (10, .int .u16 (l.getD (i).toNat 0)), (9, .int .i64 i), (42, .int .i64 i), (41, .int .i64 (len : Int)), (40, .slice pa len cap), (8, .int .i64 now), (7, .pointer (some ⟨b1, 0, none⟩)), (2, .slice pa len cap)] w10 (by kernel_rfl) ?_
          refine J.ok (OK.ldBox S10 0 67 3 0 (.int .i64 (nextF q)) (by kernel_rfl) rfl (by kernel_rfl)) ?_
          refine J.run 2 K6_21 [(69, .bool ((nextF q) != (nextF q))), (65, .bool false), (13, .int .i64 (nextF q)), (12, .pointer (some ⟨b2, 0, none⟩)), (11, .int .i64 e), (10, .int .u16 (l.getD (i).toNat 0)), (9, .int .i64 i), (42, .int .i64 i), (41, .int .i64 (len : Int)), (40, .slice pa len cap), (8, .int .i64 now), (7, .pointer (some ⟨b1, 0, none⟩)), (2, .slice pa len cap)] w10 (by kernel_rfl) ?_
          refine J.head (.bool false) (congrArg Value.bool (by simp)) ?_
          refine J.run 3 K6_22 [(72, .pointer (some ⟨b2, 3, none⟩)), (71, .bool false), (13, .int .i64 (nextF q)), (12, .pointer (some ⟨b2, 0, none⟩)), (11, .int .i64 e), (10, .int .u16 (l.getD (i).toNat 0)), (9, .int .i64 i), (42, .int .i64 i), (41, .int .i64 (len : Int)), (40, .slice pa len cap), (8, .int .i64 now), (7, .pointer (some ⟨b1, 0, none⟩)), (2, .slice pa len cap)] w10 (by kernel_rfl) ?_
          refine J.ok (OK.ldBox S10 0 73 4 3 (.bool true) (by kernel_rfl) rfl (by kernel_rfl)) ?_
          refine J.run 4 K6_23 [(77, .pointer (some ⟨b2, 1, none⟩)), (76, .bool false), (13, .int .i64 (nextF q)), (12, .pointer (some ⟨b2, 0, none⟩)), (11, .int .i64 e), (10, .int .u16 (l.getD (i).toNat 0)), (9, .int .i64 i), (42, .int .i64 i), (41, .int .i64 (len : Int)), (40, .slice pa len cap), (8, .int .i64 now), (7, .pointer (some ⟨b1, 0, none⟩)), (2, .slice pa len cap)] w10 (by kernel_rfl) ?_
          refine J.ok (OK.ldBox S10 0 78 3 1 (.int .i64 now) (by kernel_rfl) rfl (by kernel_rfl)) ?_
          refine J.run 2 K6_24 [(80, .bool (now != now)), (76, .bool false), (13, .int .i64 (nextF q)), (12, .pointer (some ⟨b2, 0, none⟩)), (11, .int .i64 e), (10, .int .u16 (l.getD (i).toNat 0)), (9, .int .i64 i), (42, .int .i64 i), (41, .int .i64 (len : Int)), (40, .slice pa len cap), (8, .int .i64 now), (7, .pointer (some ⟨b1, 0, none⟩)), (2, .slice pa len cap)] w10 (by kernel_rfl) ?_
          refine J.head (.bool false) (congrArg Value.bool (by simp)) ?_
          refine J.run 9 K6_25 [(84, .int .i64 (IntKind.wrap .i64 (l.getD (i).toNat 0))), (82, .int .i64 now), (13, .int .i64 (nextF q)), (12, .pointer (some ⟨b2, 0, none⟩)), (11, .int .i64 e), (10, .int .u16 (l.getD (i).toNat 0)), (9, .int .i64 i), (42, .int .i64 i), (41, .int .i64 (len : Int)), (40, .slice pa len cap), (7, .pointer (some ⟨b1, 0, none⟩)), (2, .slice pa len cap)] w10 (by kernel_rfl) ?_
          refine J.head (.int .i64 (l.getD (i).toNat 0)) (congrArg (Value.int .i64) (IntWalk.i64_in _ (by omega))) ?_
          refine J.run 1 K6_26 [(85, .int .i64 (Int.tmod (l.getD (i).toNat 0) 10001)), (82, .int .i64 now), (13, .int .i64 (nextF q)), (12, .pointer (some ⟨b2, 0, none⟩)), (11, .int .i64 e), (10, .int .u16 (l.getD (i).toNat 0)), (9, .int .i64 i), (42, .int .i64 i), (41, .int .i64 (len : Int)), (40, .slice pa len cap), (7, .pointer (some ⟨b1, 0, none⟩)), (2, .slice pa len cap)] w10 (by kernel_rfl) ?_
          refine J.head (.int .i64 ((l.getD (i).toNat 0) % 10001)) (congrArg (Value.int .i64) (IntWalk.rem_in _ _ (by omega))) ?_
          refine J.run 1 K6_27 [(86, .int .i64 (IntKind.wrap .i64 (10000 + ((l.getD (i).toNat 0) % 10001)))), (82, .int .i64 now), (13, .int .i64 (nextF q)), (12, .pointer (some ⟨b2, 0, none⟩)), (11, .int .i64 e), (10, .int .u16 (l.getD (i).toNat 0)), (9, .int .i64 i), (42, .int .i64 i), (41, .int .i64 (len : Int)), (40, .slice pa len cap), (7, .pointer (some ⟨b1, 0, none⟩)), (2, .slice pa len cap)] w10 (by kernel_rfl) ?_
          refine J.head (.int .i64 (10000 + ((l.getD (i).toNat 0) % 10001))) (congrArg (Value.int .i64) (IntWalk.i64_in _ (by omega))) ?_
          refine J.run 1 K6_28 [(87, .int .i64 (IntKind.wrap .i64 (now + (10000 + ((l.getD (i).toNat 0) % 10001))))), (13, .int .i64 (nextF q)), (12, .pointer (some ⟨b2, 0, none⟩)), (11, .int .i64 e), (10, .int .u16 (l.getD (i).toNat 0)), (9, .int .i64 i), (42, .int .i64 i), (41, .int .i64 (len : Int)), (40, .slice pa len cap), (7, .pointer (some ⟨b1, 0, none⟩)), (2, .slice pa len cap)] w10 (by kernel_rfl) ?_
          refine J.head (.int .i64 (now + (10000 + ((l.getD (i).toNat 0) % 10001)))) (congrArg (Value.int .i64) (IntWalk.i64_in _ (by omega))) ?_
          refine J.run 6 K6_29 [(89, .int .i64 (IntKind.wrap .i64 (l.getD (i).toNat 0))), (8, .int .i64 (now + (10000 + ((l.getD (i).toNat 0) % 10001)))), (13, .int .i64 (nextF q)), (12, .pointer (some ⟨b2, 0, none⟩)), (11, .int .i64 e), (10, .int .u16 (l.getD (i).toNat 0)), (9, .int .i64 i), (42, .int .i64 i), (41, .int .i64 (len : Int)), (40, .slice pa len cap), (7, .pointer (some ⟨b1, 0, none⟩)), (2, .slice pa len cap)] w10 (by kernel_rfl) ?_
          refine J.head (.int .i64 (l.getD (i).toNat 0)) (congrArg (Value.int .i64) (IntWalk.i64_in _ (by omega))) ?_
          refine J.run 1 K6_30 [(90, .int .i64 i), (89, .int .i64 (l.getD (i).toNat 0)), (8, .int .i64 (now + (10000 + ((l.getD (i).toNat 0) % 10001)))), (13, .int .i64 (nextF q)), (12, .pointer (some ⟨b2, 0, none⟩)), (11, .int .i64 e), (10, .int .u16 (l.getD (i).toNat 0)), (42, .int .i64 i), (41, .int .i64 (len : Int)), (40, .slice pa len cap), (7, .pointer (some ⟨b1, 0, none⟩)), (2, .slice pa len cap)] w10 (by kernel_rfl) ?_
          refine J.newSlice S10 91 3 [.int .i64 (l.getD (i).toNat 0), .int .i64 i, .int .i64 3] 3 (by kernel_rfl) ?_
          intro b3 w11 S11
          refine J.run 6 K6_31 [(94, .slice (some ⟨b3, 0, none⟩) 3 3), (93, .int .i64 (nextF q)), (15, .slice (some ⟨b3, 0, none⟩) 3 3), (8, .int .i64 (now + (10000 + ((l.getD (i).toNat 0) % 10001)))), (12, .pointer (some ⟨b2, 0, none⟩)), (11, .int .i64 e), (10, .int .u16 (l.getD (i).toNat 0)), (42, .int .i64 i), (41, .int .i64 (len : Int)), (40, .slice pa len cap), (7, .pointer (some ⟨b1, 0, none⟩)), (2, .slice pa len cap)] w11 (by kernel_rfl) ?_
          have fk8 : (partsB ([(l.getD (i).toNat 0), i, 3])) = true := parts_three (by omega) (by omega) (by omega)
          have fk9 : (questionB (nextF q)) = true := questionB_iff.2 (nextF_bounds (by omega))
          refine J.callF 95 10 #[.int .i64 (nextF q), .slice (some ⟨b3, 0, none⟩) 3 3] hb10 (by kernel_rfl) (answer_any (nextF q) (some ⟨b3, 0, none⟩) 3 3 ([(l.getD (i).toNat 0), i, 3]) _ ((box_ints [(l.getD (i).toNat 0), i, 3] (S11.nth 0 rfl) rfl 3 rfl)) (by omega)) ?_
          rintro _ w12 ⟨rfl, T6⟩
          have S12 : Sep w [box b3 [.int .i64 (l.getD (i).toNat 0), .int .i64 i, .int .i64 3] 3, box b2 [.int .i64 (nextF q), .int .i64 now, .int .i64 e, .bool true, .bool false] 31, box b1 [.int .i64 q, .int .i64 0, .int .i64 e, .bool false, .bool f] 31] w12 := S11.trans T6
          clear T6 S11
          refine J.head (.tuple #[.int .i64 (ansF (nextF q) ([(l.getD (i).toNat 0), i, 3])), .int .i64 0]) (by first | (simp only [ansV, fk8, fk9, reduceCtorEq, ↓reduceIte]; done) | simp [ansV, fk8, fk9]) ?_
          refine J.run 8 K6_32 [(17, .int .i64 0), (16, .int .i64 (ansF (nextF q) ([(l.getD (i).toNat 0), i, 3]))), (15, .slice (some ⟨b3, 0, none⟩) 3 3), (8, .int .i64 (now + (10000 + ((l.getD (i).toNat 0) % 10001)))), (12, .pointer (some ⟨b2, 0, none⟩)), (11, .int .i64 e), (10, .int .u16 (l.getD (i).toNat 0)), (42, .int .i64 i), (41, .int .i64 (len : Int)), (40, .slice pa len cap), (7, .pointer (some ⟨b1, 0, none⟩)), (2, .slice pa len cap)] w12 (by kernel_rfl) ?_
          refine J.ok (OK.ldBox S12 1 99 31 0 (.agg #[.int .i64 (nextF q), .int .i64 now, .int .i64 e, .bool true, .bool false]) (by kernel_rfl) rfl (by kernel_rfl)) ?_
          refine J.run 1 K6_33 [(100, .int .i64 (now + (10000 + ((l.getD (i).toNat 0) % 10001)))), (99, .agg #[.int .i64 (nextF q), .int .i64 now, .int .i64 e, .bool true, .bool false]), (17, .int .i64 0), (16, .int .i64 (ansF (nextF q) ([(l.getD (i).toNat 0), i, 3]))), (15, .slice (some ⟨b3, 0, none⟩) 3 3), (8, .int .i64 (now + (10000 + ((l.getD (i).toNat 0) % 10001)))), (12, .pointer (some ⟨b2, 0, none⟩)), (11, .int .i64 e), (10, .int .u16 (l.getD (i).toNat 0)), (42, .int .i64 i), (41, .int .i64 (len : Int)), (40, .slice pa len cap), (7, .pointer (some ⟨b1, 0, none⟩)), (2, .slice pa len cap)] w12 (by kernel_rfl) ?_
          have fk10 : (validB (nextF q) now e true false) = true := valid_of (nextF_bounds (by omega)) (by omega) (.inl rfl) (by omega) (by first | rfl | exact hf)
          have fk11 : (instantB (now + (10000 + ((l.getD (i).toNat 0) % 10001)))) = true := instantB_iff.2 (by omega)
          have fk12 : ¬ ((now + (10000 + ((l.getD (i).toNat 0) % 10001))) < now) := by omega
          have fk13 : ¬ (20000 < ((now + (10000 + ((l.getD (i).toNat 0) % 10001))) - now)) := by omega
          refine J.callF 101 19 #[.agg #[.int .i64 (nextF q), .int .i64 now, .int .i64 e, .bool true, .bool false], .int .i64 (now + (10000 + ((l.getD (i).toNat 0) % 10001)))] hb19 (by kernel_rfl) (tick_any (nextF q) now e true false (now + (10000 + ((l.getD (i).toNat 0) % 10001))) _) ?_
          rintro _ w13 ⟨rfl, T7⟩
          have S13 : Sep w [box b3 [.int .i64 (l.getD (i).toNat 0), .int .i64 i, .int .i64 3] 3, box b2 [.int .i64 (nextF q), .int .i64 now, .int .i64 e, .bool true, .bool false] 31, box b1 [.int .i64 q, .int .i64 0, .int .i64 e, .bool false, .bool f] 31] w13 := S12.trans T7
          clear T7 S12
          refine J.head (.tuple #[.agg #[.int .i64 (nextF q), .int .i64 now, .int .i64 e, .bool true, .bool false], .int .i64 0]) (by first | (simp only [tickV, zeroQ, fk10, fk11, fk12, fk13, reduceCtorEq, ↓reduceIte]; done) | simp [tickV, zeroQ, fk10, fk11, fk12, fk13]) ?_
          refine J.run 3 K6_34 [(103, .int .i64 0), (102, .agg #[.int .i64 (nextF q), .int .i64 now, .int .i64 e, .bool true, .bool false]), (17, .int .i64 0), (16, .int .i64 (ansF (nextF q) ([(l.getD (i).toNat 0), i, 3]))), (15, .slice (some ⟨b3, 0, none⟩) 3 3), (8, .int .i64 (now + (10000 + ((l.getD (i).toNat 0) % 10001)))), (12, .pointer (some ⟨b2, 0, none⟩)), (11, .int .i64 e), (10, .int .u16 (l.getD (i).toNat 0)), (42, .int .i64 i), (41, .int .i64 (len : Int)), (40, .slice pa len cap), (7, .pointer (some ⟨b1, 0, none⟩)), (2, .slice pa len cap)] w13 (by kernel_rfl) ?_
          refine J.new S13 18 [.int .i64 0, .int .i64 0, .int .i64 0, .bool false, .bool false] 31 (by kernel_rfl) ?_
          intro b4 w14 S14
          refine J.stBox S14 0 31 0 (.agg #[.int .i64 (nextF q), .int .i64 now, .int .i64 e, .bool true, .bool false]) [.int .i64 (nextF q), .int .i64 now, .int .i64 e, .bool true, .bool false] [box b4 [.int .i64 (nextF q), .int .i64 now, .int .i64 e, .bool true, .bool false] 31, box b3 [.int .i64 (l.getD (i).toNat 0), .int .i64 i, .int .i64 3] 3, box b2 [.int .i64 (nextF q), .int .i64 now, .int .i64 e, .bool true, .bool false] 31, box b1 [.int .i64 q, .int .i64 0, .int .i64 e, .bool false, .bool f] 31] (by kernel_rfl) rfl (by kernel_rfl) (by kernel_rfl) rfl ?_
          intro w15 S15
          refine J.run 4 K6_35 [(19, .int .i64 0), (18, .pointer (some ⟨b4, 0, none⟩)), (17, .int .i64 0), (16, .int .i64 (ansF (nextF q) ([(l.getD (i).toNat 0), i, 3]))), (15, .slice (some ⟨b3, 0, none⟩) 3 3), (8, .int .i64 (now + (10000 + ((l.getD (i).toNat 0) % 10001)))), (12, .pointer (some ⟨b2, 0, none⟩)), (11, .int .i64 e), (10, .int .u16 (l.getD (i).toNat 0)), (42, .int .i64 i), (41, .int .i64 (len : Int)), (40, .slice pa len cap), (7, .pointer (some ⟨b1, 0, none⟩)), (2, .slice pa len cap)] w15 (by kernel_rfl) ?_
          refine J.ok (OK.ldBox S15 0 105 31 0 (.agg #[.int .i64 (nextF q), .int .i64 now, .int .i64 e, .bool true, .bool false]) (by kernel_rfl) rfl (by kernel_rfl)) ?_
          refine J.run 3 K6_36 [(108, .slice (some ⟨b3, 0, none⟩) 3 3), (107, .int .i64 (ansF (nextF q) ([(l.getD (i).toNat 0), i, 3]))), (106, .int .i64 (now + (10000 + ((l.getD (i).toNat 0) % 10001)))), (105, .agg #[.int .i64 (nextF q), .int .i64 now, .int .i64 e, .bool true, .bool false]), (19, .int .i64 0), (18, .pointer (some ⟨b4, 0, none⟩)), (17, .int .i64 0), (8, .int .i64 (now + (10000 + ((l.getD (i).toNat 0) % 10001)))), (12, .pointer (some ⟨b2, 0, none⟩)), (11, .int .i64 e), (10, .int .u16 (l.getD (i).toNat 0)), (42, .int .i64 i), (41, .int .i64 (len : Int)), (40, .slice pa len cap), (7, .pointer (some ⟨b1, 0, none⟩)), (2, .slice pa len cap)] w15 (by kernel_rfl) ?_
          have fk14 : (wordB (ansF (nextF q) ([(l.getD (i).toNat 0), i, 3]))) = true := wordB_iff.2 (ansF_bounds (by have := nextF_bounds (n := q) (by omega); omega) _)
          refine J.callF 109 18 #[.agg #[.int .i64 (nextF q), .int .i64 now, .int .i64 e, .bool true, .bool false], .int .i64 (now + (10000 + ((l.getD (i).toNat 0) % 10001))), .int .i64 (ansF (nextF q) ([(l.getD (i).toNat 0), i, 3])), .slice (some ⟨b3, 0, none⟩) 3 3] hb18 (by kernel_rfl) (reply_any (nextF q) now e true false (now + (10000 + ((l.getD (i).toNat 0) % 10001))) (ansF (nextF q) ([(l.getD (i).toNat 0), i, 3])) (some ⟨b3, 0, none⟩) 3 3 ([(l.getD (i).toNat 0), i, 3]) _ ((box_ints [(l.getD (i).toNat 0), i, 3] (S15.nth 1 rfl) rfl 3 rfl)) (by omega)) ?_
          rintro _ w16 ⟨rfl, T8⟩
          have S16 : Sep w [box b4 [.int .i64 (nextF q), .int .i64 now, .int .i64 e, .bool true, .bool false] 31, box b3 [.int .i64 (l.getD (i).toNat 0), .int .i64 i, .int .i64 3] 3, box b2 [.int .i64 (nextF q), .int .i64 now, .int .i64 e, .bool true, .bool false] 31, box b1 [.int .i64 q, .int .i64 0, .int .i64 e, .bool false, .bool f] 31] w16 := S15.trans T8
          clear T8 S15
          refine J.head (.tuple #[.agg #[.int .i64 (nextF q), .int .i64 0, .int .i64 (endE e (replyR (nextF q) now (now + (10000 + ((l.getD (i).toNat 0) % 10001))) (ansF (nextF q) ([(l.getD (i).toNat 0), i, 3])) ([(l.getD (i).toNat 0), i, 3]))), .bool false, .bool ((endE e (replyR (nextF q) now (now + (10000 + ((l.getD (i).toNat 0) % 10001))) (ansF (nextF q) ([(l.getD (i).toNat 0), i, 3])) ([(l.getD (i).toNat 0), i, 3]))) == 7)], .int .i64 0]) (by first | (simp only [replyV, zeroQ, fk10, fk8, fk11, fk14, fk12, reduceCtorEq, ↓reduceIte]; done) | simp [replyV, zeroQ, fk10, fk8, fk11, fk14, fk12]) ?_
          refine J.head (.tuple #[.agg #[.int .i64 (nextF q), .int .i64 0, .int .i64 (endE e true), .bool false, .bool ((endE e true) == 7)], .int .i64 0]) (by rw [show (replyR (nextF q) now (now + (10000 + ((l.getD (i).toNat 0) % 10001))) (ansF (nextF q) ([(l.getD (i).toNat 0), i, 3])) ([(l.getD (i).toNat 0), i, 3])) = true from replyR_true rfl (by omega) (by omega)]) ?_
          refine J.run 3 K6_37 [(111, .int .i64 0), (110, .agg #[.int .i64 (nextF q), .int .i64 0, .int .i64 (endE e true), .bool false, .bool ((endE e true) == 7)]), (19, .int .i64 0), (18, .pointer (some ⟨b4, 0, none⟩)), (17, .int .i64 0), (8, .int .i64 (now + (10000 + ((l.getD (i).toNat 0) % 10001)))), (12, .pointer (some ⟨b2, 0, none⟩)), (11, .int .i64 e), (10, .int .u16 (l.getD (i).toNat 0)), (42, .int .i64 i), (41, .int .i64 (len : Int)), (40, .slice pa len cap), (7, .pointer (some ⟨b1, 0, none⟩)), (2, .slice pa len cap)] w16 (by kernel_rfl) ?_
          refine J.new S16 20 [.int .i64 0, .int .i64 0, .int .i64 0, .bool false, .bool false] 31 (by kernel_rfl) ?_
          intro b5 w17 S17
          refine J.stBox S17 0 31 0 (.agg #[.int .i64 (nextF q), .int .i64 0, .int .i64 (endE e true), .bool false, .bool ((endE e true) == 7)]) [.int .i64 (nextF q), .int .i64 0, .int .i64 (endE e true), .bool false, .bool ((endE e true) == 7)] [box b5 [.int .i64 (nextF q), .int .i64 0, .int .i64 (endE e true), .bool false, .bool ((endE e true) == 7)] 31, box b4 [.int .i64 (nextF q), .int .i64 now, .int .i64 e, .bool true, .bool false] 31, box b3 [.int .i64 (l.getD (i).toNat 0), .int .i64 i, .int .i64 3] 3, box b2 [.int .i64 (nextF q), .int .i64 now, .int .i64 e, .bool true, .bool false] 31, box b1 [.int .i64 q, .int .i64 0, .int .i64 e, .bool false, .bool f] 31] (by kernel_rfl) rfl (by kernel_rfl) (by kernel_rfl) rfl ?_
          intro w18 S18
          refine J.run 16 K6_38 [(122, .bool false), (20, .pointer (some ⟨b5, 0, none⟩)), (18, .pointer (some ⟨b4, 0, none⟩)), (8, .int .i64 (now + (10000 + ((l.getD (i).toNat 0) % 10001)))), (12, .pointer (some ⟨b2, 0, none⟩)), (11, .int .i64 e), (10, .int .u16 (l.getD (i).toNat 0)), (42, .int .i64 i), (41, .int .i64 (len : Int)), (40, .slice pa len cap), (7, .pointer (some ⟨b1, 0, none⟩)), (2, .slice pa len cap)] w18 (by kernel_rfl) ?_
          refine J.ok (OK.ldBox S18 1 123 31 0 (.agg #[.int .i64 (nextF q), .int .i64 now, .int .i64 e, .bool true, .bool false]) (by kernel_rfl) rfl (by kernel_rfl)) ?_
          refine J.ok (OK.ldBox S18 3 124 31 0 (.agg #[.int .i64 (nextF q), .int .i64 now, .int .i64 e, .bool true, .bool false]) (by kernel_rfl) rfl (by kernel_rfl)) ?_
          refine J.ok (OK.eqS 125 false 31 #[.int .i64 (nextF q), .int .i64 now, .int .i64 e, .bool true, .bool false] #[.int .i64 (nextF q), .int .i64 now, .int .i64 e, .bool true, .bool false] (((nextF q) == (nextF q)) && ((now == now) && ((e == e) && ((true == true) && ((false == false) && true))))) (by kernel_rfl) (by kernel_rfl) (by kernel_rfl) false (by simp)) ?_
          refine J.run 3 K6_39 [(128, .pointer (some ⟨b5, 3, none⟩)), (127, .bool false), (20, .pointer (some ⟨b5, 0, none⟩)), (8, .int .i64 (now + (10000 + ((l.getD (i).toNat 0) % 10001)))), (11, .int .i64 e), (10, .int .u16 (l.getD (i).toNat 0)), (42, .int .i64 i), (41, .int .i64 (len : Int)), (40, .slice pa len cap), (7, .pointer (some ⟨b1, 0, none⟩)), (2, .slice pa len cap)] w18 (by kernel_rfl) ?_
          refine J.ok (OK.ldBox S18 0 129 4 3 (.bool false) (by kernel_rfl) rfl (by kernel_rfl)) ?_
          refine J.run 3 K6_40 [(132, .pointer (some ⟨b5, 4, none⟩)), (131, .bool false), (20, .pointer (some ⟨b5, 0, none⟩)), (8, .int .i64 (now + (10000 + ((l.getD (i).toNat 0) % 10001)))), (11, .int .i64 e), (10, .int .u16 (l.getD (i).toNat 0)), (42, .int .i64 i), (41, .int .i64 (len : Int)), (40, .slice pa len cap), (7, .pointer (some ⟨b1, 0, none⟩)), (2, .slice pa len cap)] w18 (by kernel_rfl) ?_
          refine J.ok (OK.ldBox S18 0 133 4 4 (.bool ((endE e true) == 7)) (by kernel_rfl) rfl (by kernel_rfl)) ?_
          refine J.run 2 K6_41 [(135, .bool ((endE e true) == 7)), (20, .pointer (some ⟨b5, 0, none⟩)), (8, .int .i64 (now + (10000 + ((l.getD (i).toNat 0) % 10001)))), (11, .int .i64 e), (10, .int .u16 (l.getD (i).toNat 0)), (42, .int .i64 i), (41, .int .i64 (len : Int)), (40, .slice pa len cap), (7, .pointer (some ⟨b1, 0, none⟩)), (2, .slice pa len cap)] w18 (by kernel_rfl) ?_
          have fk16 : ¬ ((endE e true) = 7) := by omega
          refine J.head (.bool false) (congrArg Value.bool (beq_eq_false_iff_ne.2 fk16)) ?_
          refine J.run 1 K6_42 [(136, .pointer (some ⟨b5, 2, none⟩)), (135, .bool false), (20, .pointer (some ⟨b5, 0, none⟩)), (8, .int .i64 (now + (10000 + ((l.getD (i).toNat 0) % 10001)))), (11, .int .i64 e), (10, .int .u16 (l.getD (i).toNat 0)), (42, .int .i64 i), (41, .int .i64 (len : Int)), (40, .slice pa len cap), (7, .pointer (some ⟨b1, 0, none⟩)), (2, .slice pa len cap)] w18 (by kernel_rfl) ?_
          refine J.ok (OK.ldBox S18 0 137 3 2 (.int .i64 (endE e true)) (by kernel_rfl) rfl (by kernel_rfl)) ?_
          refine J.run 2 K6_43 [(139, .int .i64 (IntKind.wrap .i64 (e - 1))), (137, .int .i64 (endE e true)), (135, .bool false), (20, .pointer (some ⟨b5, 0, none⟩)), (8, .int .i64 (now + (10000 + ((l.getD (i).toNat 0) % 10001)))), (10, .int .u16 (l.getD (i).toNat 0)), (42, .int .i64 i), (41, .int .i64 (len : Int)), (40, .slice pa len cap), (7, .pointer (some ⟨b1, 0, none⟩)), (2, .slice pa len cap)] w18 (by kernel_rfl) ?_
          refine J.head (.int .i64 (e - 1)) (congrArg (Value.int .i64) (IntWalk.i64_in _ (by omega))) ?_
          refine J.run 1 K6_44 [(140, .int .i64 (if (e - 1) > 0 then (e - 1) else 0)), (137, .int .i64 (endE e true)), (135, .bool false), (20, .pointer (some ⟨b5, 0, none⟩)), (8, .int .i64 (now + (10000 + ((l.getD (i).toNat 0) % 10001)))), (10, .int .u16 (l.getD (i).toNat 0)), (42, .int .i64 i), (41, .int .i64 (len : Int)), (40, .slice pa len cap), (7, .pointer (some ⟨b1, 0, none⟩)), (2, .slice pa len cap)] w18 (by kernel_rfl) ?_
          refine J.head (.int .i64 (max 0 (e - 1))) (congrArg (Value.int .i64) (by omega)) ?_
          refine J.run 3 K6_45 [(142, .bool ((endE e true) != (max 0 (e - 1)))), (20, .pointer (some ⟨b5, 0, none⟩)), (8, .int .i64 (now + (10000 + ((l.getD (i).toNat 0) % 10001)))), (10, .int .u16 (l.getD (i).toNat 0)), (42, .int .i64 i), (41, .int .i64 (len : Int)), (40, .slice pa len cap), (7, .pointer (some ⟨b1, 0, none⟩)), (2, .slice pa len cap)] w18 (by kernel_rfl) ?_
          have fk18 : (endE e true) = (max 0 (e - 1)) := by omega
          refine J.head (.bool false) (congrArg Value.bool (bne_eq_false_iff_eq.2 fk18)) ?_
          refine J.run 4 K6_46 [(20, .pointer (some ⟨b5, 0, none⟩)), (8, .int .i64 (now + (10000 + ((l.getD (i).toNat 0) % 10001)))), (10, .int .u16 (l.getD (i).toNat 0)), (42, .int .i64 i), (41, .int .i64 (len : Int)), (40, .slice pa len cap), (7, .pointer (some ⟨b1, 0, none⟩)), (2, .slice pa len cap)] w18 (by kernel_rfl) ?_
          refine J.ok (OK.ldBox S18 0 143 31 0 (.agg #[.int .i64 (nextF q), .int .i64 0, .int .i64 (endE e true), .bool false, .bool ((endE e true) == 7)]) (by kernel_rfl) rfl (by kernel_rfl)) ?_
          refine J.stBox S18 4 31 0 (.agg #[.int .i64 (nextF q), .int .i64 0, .int .i64 (endE e true), .bool false, .bool ((endE e true) == 7)]) [.int .i64 (nextF q), .int .i64 0, .int .i64 (endE e true), .bool false, .bool ((endE e true) == 7)] [box b5 [.int .i64 (nextF q), .int .i64 0, .int .i64 (endE e true), .bool false, .bool ((endE e true) == 7)] 31, box b4 [.int .i64 (nextF q), .int .i64 now, .int .i64 e, .bool true, .bool false] 31, box b3 [.int .i64 (l.getD (i).toNat 0), .int .i64 i, .int .i64 3] 3, box b2 [.int .i64 (nextF q), .int .i64 now, .int .i64 e, .bool true, .bool false] 31, box b1 [.int .i64 (nextF q), .int .i64 0, .int .i64 (endE e true), .bool false, .bool ((endE e true) == 7)] 31] (by kernel_rfl) rfl (by kernel_rfl) (by kernel_rfl) rfl ?_
          intro w19 S19
          refine J.run 5 K6_47 [(146, .int .i64 (IntKind.wrap .i64 (l.getD (i).toNat 0))), (144, .int .i64 (now + (10000 + ((l.getD (i).toNat 0) % 10001)))), (42, .int .i64 i), (41, .int .i64 (len : Int)), (40, .slice pa len cap), (7, .pointer (some ⟨b1, 0, none⟩)), (2, .slice pa len cap)] w19 (by kernel_rfl) ?_
          refine J.head (.int .i64 (l.getD (i).toNat 0)) (congrArg (Value.int .i64) (IntWalk.i64_in _ (by omega))) ?_
          refine J.run 1 K6_48 [(147, .int .i64 (Int.tmod (l.getD (i).toNat 0) 100)), (144, .int .i64 (now + (10000 + ((l.getD (i).toNat 0) % 10001)))), (42, .int .i64 i), (41, .int .i64 (len : Int)), (40, .slice pa len cap), (7, .pointer (some ⟨b1, 0, none⟩)), (2, .slice pa len cap)] w19 (by kernel_rfl) ?_
          refine J.head (.int .i64 ((l.getD (i).toNat 0) % 100)) (congrArg (Value.int .i64) (IntWalk.rem_in _ _ (by omega))) ?_
          refine J.run 1 K6_49 [(148, .int .i64 (IntKind.wrap .i64 ((now + (10000 + ((l.getD (i).toNat 0) % 10001))) + ((l.getD (i).toNat 0) % 100)))), (42, .int .i64 i), (41, .int .i64 (len : Int)), (40, .slice pa len cap), (7, .pointer (some ⟨b1, 0, none⟩)), (2, .slice pa len cap)] w19 (by kernel_rfl) ?_
          refine J.head (.int .i64 ((now + (10000 + ((l.getD (i).toNat 0) % 10001))) + ((l.getD (i).toNat 0) % 100))) (congrArg (Value.int .i64) (IntWalk.i64_in _ (by omega))) ?_
          refine J.run 5 K6_50 [(149, .int .i64 (IntKind.wrap .i64 (i + 1))), (8, .int .i64 ((now + (10000 + ((l.getD (i).toNat 0) % 10001))) + ((l.getD (i).toNat 0) % 100))), (41, .int .i64 (len : Int)), (40, .slice pa len cap), (7, .pointer (some ⟨b1, 0, none⟩)), (2, .slice pa len cap)] w19 (by kernel_rfl) ?_
          refine J.head (.int .i64 (i + 1)) (congrArg (Value.int .i64) (IntWalk.i64_in _ (by omega))) ?_
          refine J.run 3 K6_11 [(42, .int .i64 (i + 1)), (8, .int .i64 ((now + (10000 + ((l.getD (i).toNat 0) % 10001))) + ((l.getD (i).toNat 0) % 100))), (41, .int .i64 (len : Int)), (40, .slice pa len cap), (7, .pointer (some ⟨b1, 0, none⟩)), (2, .slice pa len cap)] w19 (by kernel_rfl) ?_
          have S20 : Sep w [box b5 [.int .i64 (nextF q), .int .i64 0, .int .i64 (endE e true), .bool false, .bool ((endE e true) == 7)] 31, box b4 [.int .i64 (nextF q), .int .i64 now, .int .i64 e, .bool true, .bool false] 31, box b3 [.int .i64 (l.getD (i).toNat 0), .int .i64 i, .int .i64 3] 3, box b1 [.int .i64 (nextF q), .int .i64 0, .int .i64 (endE e true), .bool false, .bool ((endE e true) == 7)] 31] w19 := S19.erase 3
          clear S19
          have S21 : Sep w [box b5 [.int .i64 (nextF q), .int .i64 0, .int .i64 (endE e true), .bool false, .bool ((endE e true) == 7)] 31, box b4 [.int .i64 (nextF q), .int .i64 now, .int .i64 e, .bool true, .bool false] 31, box b1 [.int .i64 (nextF q), .int .i64 0, .int .i64 (endE e true), .bool false, .bool ((endE e true) == 7)] 31] w19 := S20.erase 2
          clear S20
          have S22 : Sep w [box b5 [.int .i64 (nextF q), .int .i64 0, .int .i64 (endE e true), .bool false, .bool ((endE e true) == 7)] 31, box b1 [.int .i64 (nextF q), .int .i64 0, .int .i64 (endE e true), .bool false, .bool ((endE e true) == 7)] 31] w19 := S21.erase 1
          clear S21
          have S23 : Sep w [box b1 [.int .i64 (nextF q), .int .i64 0, .int .i64 (endE e true), .bool false, .bool ((endE e true) == 7)] 31] w19 := S22.erase 0
          clear S22
          refine J.run 0 K6_11 [(42, .int .i64 (i + 1)), (41, .int .i64 (len : Int)), (40, .slice pa len cap), (8, .int .i64 ((now + (10000 + ((l.getD (i).toNat 0) % 10001))) + ((l.getD (i).toNat 0) % 100))), (7, .pointer (some ⟨b1, 0, none⟩)), (2, .slice pa len cap)] w19 (by kernel_rfl) ?_
          exact ih1 _ (show ((len : Int) - (i + 1)).toNat < m from by omega) (nextF q) (endE e true) ((endE e true) == 7) ((now + (10000 + ((l.getD (i).toNat 0) % 10001))) + ((l.getD (i).toNat 0) % 100)) (i + 1) w19 (by omega) (by omega) (by omega) (nextF_bounds hq) (by omega) (beq_eq_false_iff_ne.2 (by omega)) S23 rfl
        · skip
          refine J.head (.bool false) (congrArg Value.bool (decide_eq_false fk3)) ?_
          refine J.run 8 K6_51 [(153, .bool (decide ((len : Int) < 7))), (7, .pointer (some ⟨b1, 0, none⟩))] w6 (by kernel_rfl) ?_
          by_cases fk19 : (len : Int) < 7
          · skip
            refine J.head (.bool true) (congrArg Value.bool (decide_eq_true fk19)) ?_
            refine J.run 6 K6_52 [(6, .bool true)] w6 (by kernel_rfl) ?_
            refine J.ret Try.f6 [.bool true] Try.func6 ⟨by kernel_rfl, trivial⟩ ?_
            refine hR _ _ ?_
            exact ⟨rfl, S6.nil⟩
          · skip
            refine J.head (.bool false) (congrArg Value.bool (decide_eq_false fk19)) ?_
            refine J.run 1 K6_53 [(154, .pointer (some ⟨b1, 2, none⟩)), (153, .bool false)] w6 (by kernel_rfl) ?_
            refine J.ok (OK.ldBox S6 0 155 3 2 (.int .i64 e) (by kernel_rfl) rfl (by kernel_rfl)) ?_
            refine J.run 4 K6_54 [(6, .bool (e == 0))] w6 (by kernel_rfl) ?_
            refine J.ret Try.f6 [.bool (e == 0)] Try.func6 ⟨by kernel_rfl, trivial⟩ ?_
            refine hR _ _ ?_
            exact ⟨congrArg Value.bool (beq_iff_eq.2 (by omega)), S6.nil⟩
      exact L6_1 _ seed (errors % 7) false 0 0 w5 (by omega) (by omega) (by omega) (by omega) (by omega) (rfl) S5 rfl

theorem valid_off {q e : Int} {f : Bool} (hq : 1 ≤ q ∧ q ≤ 65535) (he : e = 7) (hf : f = true) : validB q 0 e false f = true := by
  subst he hf
  have h1 : questionB q = true := questionB_iff.2 hq
  simp [validB, h1, instantB]
theorem hb7 : HasBody Try.prog 7 := fun _ _ => by kernel_rfl
noncomputable def K7_0 : List Item := adv 2 [] (bodyOf Try.f7)
noncomputable def K7_1 : List Item := adv 5 [] (popK K7_0)
noncomputable def K7_2 : List Item := adv 6 [] (popK K7_1)
noncomputable def K7_3 : List Item := adv 3 [true] K7_2
noncomputable def K7_4 : List Item := adv 2 [] (popK K7_3)
noncomputable def K7_5 : List Item := adv 6 [false] K7_2
noncomputable def K7_6 : List Item := adv 2 [] K7_5
noncomputable def K7_7 : List Item := adv 1 [] K7_6
noncomputable def K7_8 : List Item := adv 1 [] K7_7
noncomputable def K7_9 : List Item := adv 8 [] (popK (popK K7_8))
noncomputable def K7_10 : List Item := adv 2 [] (popK K7_9)
noncomputable def K7_11 : List Item := List.drop 1 K7_10
noncomputable def K7_12 : List Item := adv 4 [] K7_11
noncomputable def K7_13 : List Item := adv 2 [] (popK K7_12)
noncomputable def K7_14 : List Item := adv 1 [] K7_13
noncomputable def K7_15 : List Item := adv 3 [] (popK K7_14)
noncomputable def K7_16 : List Item := adv 4 [false] K7_15
noncomputable def K7_17 : List Item := adv 1 [] (popK K7_16)
noncomputable def K7_18 : List Item := adv 4 [] (popK K7_17)
noncomputable def K7_19 : List Item := adv 5 [] (popK (popK K7_18))
noncomputable def K7_20 : List Item := adv 1 [] (popK K7_19)
noncomputable def K7_21 : List Item := adv 3 [] (popK (popK K7_20))
noncomputable def K7_22 : List Item := adv 4 [] (popK (popK K7_21))
noncomputable def K7_23 : List Item := adv 1 [] (popK K7_22)
noncomputable def K7_24 : List Item := adv 3 [] (popK K7_23)
noncomputable def K7_25 : List Item := adv 11 [] (popK (popK K7_24))
noncomputable def K7_26 : List Item := adv 7 [] (popK (popK (popK K7_25)))
noncomputable def K7_27 : List Item := adv 20 [true] K7_10
noncomputable def K7_28 : List Item := adv 5 [false] (popK K7_27)
noncomputable def K7_29 : List Item := adv 1 [] (popK K7_28)
noncomputable def K7_30 : List Item := adv 4 [] (popK K7_29)
noncomputable def K7_31 : List Item := adv 7 [] (popK (popK K7_30))
noncomputable def K7_32 : List Item := adv 6 [] (popK K7_31)
noncomputable def K7_33 : List Item := adv 27 [false] (popK K7_32)
noncomputable def K7_34 : List Item := adv 1 [] K7_33
noncomputable def K7_35 : List Item := List.drop 1 K7_34
noncomputable def K7_36 : List Item := adv 7 [] K7_35
noncomputable def K7_37 : List Item := adv 3 [] (popK K7_36)
noncomputable def K7_38 : List Item := adv 1 [] (popK K7_37)
noncomputable def K7_39 : List Item := adv 1 [] (popK K7_38)
noncomputable def K7_40 : List Item := adv 1 [] K7_39
noncomputable def K7_41 : List Item := adv 3 [] K7_40
noncomputable def K7_42 : List Item := adv 4 [false] K7_41
noncomputable def K7_43 : List Item := adv 30 [true] (popK (popK K7_42))
noncomputable def K7_44 : List Item := adv 1 [] (popK K7_43)
noncomputable def K7_45 : List Item := adv 4 [false] K7_44
noncomputable def K7_46 : List Item := adv 1 [] (popK K7_45)
noncomputable def K7_47 : List Item := adv 4 [] (popK K7_46)
noncomputable def K7_48 : List Item := adv 7 [] (popK (popK K7_47))
noncomputable def K7_49 : List Item := adv 6 [] (popK K7_48)
noncomputable def K7_50 : List Item := adv 27 [false] (popK K7_49)
noncomputable def K7_51 : List Item := adv 1 [] K7_50
noncomputable def K7_52 : List Item := List.drop 1 K7_51
noncomputable def K7_53 : List Item := adv 7 [] K7_52
noncomputable def K7_54 : List Item := adv 3 [] (popK K7_53)
noncomputable def K7_55 : List Item := adv 1 [] (popK K7_54)
noncomputable def K7_56 : List Item := adv 1 [] (popK K7_55)
noncomputable def K7_57 : List Item := adv 1 [] K7_56
noncomputable def K7_58 : List Item := adv 3 [] K7_57
noncomputable def K7_59 : List Item := adv 4 [false] K7_58
noncomputable def K7_60 : List Item := adv 30 [true] (popK (popK K7_59))
noncomputable def K7_61 : List Item := adv 1 [] (popK K7_60)
noncomputable def K7_62 : List Item := adv 4 [false] K7_61
noncomputable def K7_63 : List Item := adv 1 [] (popK K7_62)
noncomputable def K7_64 : List Item := adv 4 [] (popK K7_63)
noncomputable def K7_65 : List Item := adv 7 [] (popK (popK K7_64))
noncomputable def K7_66 : List Item := adv 6 [] (popK K7_65)
noncomputable def K7_67 : List Item := adv 27 [false] (popK K7_66)
noncomputable def K7_68 : List Item := adv 1 [] K7_67
noncomputable def K7_69 : List Item := List.drop 1 K7_68
noncomputable def K7_70 : List Item := adv 7 [] K7_69
noncomputable def K7_71 : List Item := adv 3 [] (popK K7_70)
noncomputable def K7_72 : List Item := adv 1 [] (popK K7_71)
noncomputable def K7_73 : List Item := adv 1 [] (popK K7_72)
noncomputable def K7_74 : List Item := adv 1 [] K7_73
noncomputable def K7_75 : List Item := adv 3 [] K7_74
noncomputable def K7_76 : List Item := adv 4 [false] K7_75
noncomputable def K7_77 : List Item := adv 30 [true] (popK (popK K7_76))
noncomputable def K7_78 : List Item := adv 1 [] (popK K7_77)
noncomputable def K7_79 : List Item := adv 4 [false] K7_78
noncomputable def K7_80 : List Item := adv 1 [] (popK K7_79)
noncomputable def K7_81 : List Item := adv 4 [] (popK K7_80)
noncomputable def K7_82 : List Item := adv 7 [] (popK (popK K7_81))
noncomputable def K7_83 : List Item := adv 6 [] (popK K7_82)
noncomputable def K7_84 : List Item := adv 27 [false] (popK K7_83)
noncomputable def K7_85 : List Item := adv 1 [] K7_84
noncomputable def K7_86 : List Item := List.drop 1 K7_85
noncomputable def K7_87 : List Item := adv 7 [] K7_86
noncomputable def K7_88 : List Item := adv 3 [] (popK K7_87)
noncomputable def K7_89 : List Item := adv 1 [] (popK K7_88)
noncomputable def K7_90 : List Item := adv 1 [] (popK K7_89)
noncomputable def K7_91 : List Item := adv 1 [] K7_90
noncomputable def K7_92 : List Item := adv 3 [] K7_91
noncomputable def K7_93 : List Item := adv 4 [false] K7_92
noncomputable def K7_94 : List Item := adv 6 [] K7_85
noncomputable def K7_95 : List Item := adv 2 [true] K7_94
noncomputable def K7_96 : List Item := adv 4 [] (popK K7_95)
noncomputable def K7_97 : List Item := adv 2 [] K7_96
noncomputable def K7_98 : List Item := adv 1 [] K7_97
noncomputable def K7_99 : List Item := adv 1 [] K7_98
noncomputable def K7_100 : List Item := adv 1 [] K7_99
noncomputable def K7_101 : List Item := adv 1 [] K7_100
noncomputable def K7_102 : List Item := adv 3 [] (popK K7_101)
noncomputable def K7_103 : List Item := adv 6 [false] K7_94
noncomputable def K7_104 : List Item := adv 2 [true] K7_103
noncomputable def K7_105 : List Item := adv 3 [] (popK K7_104)
noncomputable def K7_106 : List Item := adv 1 [] K7_105
noncomputable def K7_107 : List Item := adv 1 [] K7_106
noncomputable def K7_108 : List Item := adv 2 [] K7_107
noncomputable def K7_109 : List Item := adv 3 [] (popK K7_108)
noncomputable def K7_110 : List Item := adv 6 [false] K7_103
noncomputable def K7_111 : List Item := adv 2 [true] K7_110
noncomputable def K7_112 : List Item := adv 4 [] (popK K7_111)
noncomputable def K7_113 : List Item := adv 1 [] K7_112
noncomputable def K7_114 : List Item := adv 2 [] K7_113
noncomputable def K7_115 : List Item := adv 3 [] (popK K7_114)
noncomputable def K7_116 : List Item := adv 2 [false] K7_110
noncomputable def K7_117 : List Item := adv 4 [] (popK K7_116)
noncomputable def K7_118 : List Item := adv 1 [] K7_117
noncomputable def K7_119 : List Item := adv 3 [] (popK K7_118)
noncomputable def K7_120 : List Item := adv 6 [] K7_68
noncomputable def K7_121 : List Item := adv 2 [true] K7_120
noncomputable def K7_122 : List Item := adv 4 [] (popK K7_121)
noncomputable def K7_123 : List Item := adv 2 [] K7_122
noncomputable def K7_124 : List Item := adv 1 [] K7_123
noncomputable def K7_125 : List Item := adv 1 [] K7_124
noncomputable def K7_126 : List Item := adv 1 [] K7_125
noncomputable def K7_127 : List Item := adv 1 [] K7_126
noncomputable def K7_128 : List Item := adv 3 [] (popK K7_127)
noncomputable def K7_129 : List Item := adv 6 [false] K7_120
noncomputable def K7_130 : List Item := adv 2 [true] K7_129
noncomputable def K7_131 : List Item := adv 3 [] (popK K7_130)
noncomputable def K7_132 : List Item := adv 1 [] K7_131
noncomputable def K7_133 : List Item := adv 1 [] K7_132
noncomputable def K7_134 : List Item := adv 2 [] K7_133
noncomputable def K7_135 : List Item := adv 3 [] (popK K7_134)
noncomputable def K7_136 : List Item := adv 6 [false] K7_129
noncomputable def K7_137 : List Item := adv 2 [true] K7_136
noncomputable def K7_138 : List Item := adv 4 [] (popK K7_137)
noncomputable def K7_139 : List Item := adv 1 [] K7_138
noncomputable def K7_140 : List Item := adv 2 [] K7_139
noncomputable def K7_141 : List Item := adv 3 [] (popK K7_140)
noncomputable def K7_142 : List Item := adv 2 [false] K7_136
noncomputable def K7_143 : List Item := adv 4 [] (popK K7_142)
noncomputable def K7_144 : List Item := adv 1 [] K7_143
noncomputable def K7_145 : List Item := adv 3 [] (popK K7_144)
noncomputable def K7_146 : List Item := adv 6 [] K7_51
noncomputable def K7_147 : List Item := adv 2 [true] K7_146
noncomputable def K7_148 : List Item := adv 4 [] (popK K7_147)
noncomputable def K7_149 : List Item := adv 2 [] K7_148
noncomputable def K7_150 : List Item := adv 1 [] K7_149
noncomputable def K7_151 : List Item := adv 1 [] K7_150
noncomputable def K7_152 : List Item := adv 1 [] K7_151
noncomputable def K7_153 : List Item := adv 1 [] K7_152
noncomputable def K7_154 : List Item := adv 3 [] (popK K7_153)
noncomputable def K7_155 : List Item := adv 6 [false] K7_146
noncomputable def K7_156 : List Item := adv 2 [true] K7_155
noncomputable def K7_157 : List Item := adv 3 [] (popK K7_156)
noncomputable def K7_158 : List Item := adv 1 [] K7_157
noncomputable def K7_159 : List Item := adv 1 [] K7_158
noncomputable def K7_160 : List Item := adv 2 [] K7_159
noncomputable def K7_161 : List Item := adv 3 [] (popK K7_160)
noncomputable def K7_162 : List Item := adv 6 [false] K7_155
noncomputable def K7_163 : List Item := adv 2 [true] K7_162
noncomputable def K7_164 : List Item := adv 4 [] (popK K7_163)
noncomputable def K7_165 : List Item := adv 1 [] K7_164
noncomputable def K7_166 : List Item := adv 2 [] K7_165
noncomputable def K7_167 : List Item := adv 3 [] (popK K7_166)
noncomputable def K7_168 : List Item := adv 2 [false] K7_162
noncomputable def K7_169 : List Item := adv 4 [] (popK K7_168)
noncomputable def K7_170 : List Item := adv 1 [] K7_169
noncomputable def K7_171 : List Item := adv 3 [] (popK K7_170)
noncomputable def K7_172 : List Item := adv 6 [] K7_34
noncomputable def K7_173 : List Item := adv 2 [true] K7_172
noncomputable def K7_174 : List Item := adv 4 [] (popK K7_173)
noncomputable def K7_175 : List Item := adv 2 [] K7_174
noncomputable def K7_176 : List Item := adv 1 [] K7_175
noncomputable def K7_177 : List Item := adv 1 [] K7_176
noncomputable def K7_178 : List Item := adv 1 [] K7_177
noncomputable def K7_179 : List Item := adv 1 [] K7_178
noncomputable def K7_180 : List Item := adv 3 [] (popK K7_179)
noncomputable def K7_181 : List Item := adv 6 [false] K7_172
noncomputable def K7_182 : List Item := adv 2 [true] K7_181
noncomputable def K7_183 : List Item := adv 3 [] (popK K7_182)
noncomputable def K7_184 : List Item := adv 1 [] K7_183
noncomputable def K7_185 : List Item := adv 1 [] K7_184
noncomputable def K7_186 : List Item := adv 2 [] K7_185
noncomputable def K7_187 : List Item := adv 3 [] (popK K7_186)
noncomputable def K7_188 : List Item := adv 6 [false] K7_181
noncomputable def K7_189 : List Item := adv 2 [true] K7_188
noncomputable def K7_190 : List Item := adv 4 [] (popK K7_189)
noncomputable def K7_191 : List Item := adv 1 [] K7_190
noncomputable def K7_192 : List Item := adv 2 [] K7_191
noncomputable def K7_193 : List Item := adv 3 [] (popK K7_192)
noncomputable def K7_194 : List Item := adv 2 [false] K7_188
noncomputable def K7_195 : List Item := adv 4 [] (popK K7_194)
noncomputable def K7_196 : List Item := adv 1 [] K7_195
noncomputable def K7_197 : List Item := adv 3 [] (popK K7_196)
set_option maxRecDepth 20000 in
set_option maxHeartbeats 20000000 in
theorem stops_any (seed errors h0 h1 h2 h3 bye : Int) (w : World) (hs : 0 ≤ seed ∧ seed ≤ 65535) (he : 0 ≤ errors ∧ errors ≤ 255) (hb : 0 ≤ bye ∧ bye ≤ 65535) (hh0 : 0 ≤ h0 ∧ h0 ≤ 255) (hh1 : 0 ≤ h1 ∧ h1 ≤ 255) (hh2 : 0 ≤ h2 ∧ h2 ≤ 255) (hh3 : 0 ≤ h3 ∧ h3 ≤ 255) : Ret Try.prog 7 #[.int .u16 seed, .int .u8 errors, .agg #[.int .u8 h0, .int .u8 h1, .int .u8 h2, .int .u8 h3], .int .u16 bye] w (fun v w' => v = .bool true ∧ Sep w [] w') := by
  have S0 := Sep.refl w
  refine Ret.named fun R hR => ?_
  refine Ret.of_J (N := 187) [(0, .int .u16 seed), (1, .int .u8 errors), (2, .agg #[.int .u8 h0, .int .u8 h1, .int .u8 h2, .int .u8 h3]), (3, .int .u16 bye)] Try.func7 rfl rfl (Nat.le_of_ble_eq_true (by kernel_rfl)) (by kernel_rfl) ?_
  refine J.run 2 K7_0 [(0, .int .u16 seed), (1, .int .u8 errors), (2, .agg #[.int .u8 h0, .int .u8 h1, .int .u8 h2, .int .u8 h3]), (3, .int .u16 bye)] w (by kernel_rfl) ?_
  refine J.new S0 6 [.int .u8 h0, .int .u8 h1, .int .u8 h2, .int .u8 h3] 46 (by kernel_rfl) ?_
  intro b1 w1 S1
  refine J.run 5 K7_1 [(6, .pointer (some ⟨b1, 0, none⟩)), (0, .int .u16 seed), (1, .int .u8 errors), (3, .int .u16 bye)] w1 (by kernel_rfl) ?_
  refine J.callF 27 9 #[] hb9 (by kernel_rfl) (awake_any  _) ?_
  rintro _ w2 ⟨rfl, T1⟩
  have S2 : Sep w [box b1 [.int .u8 h0, .int .u8 h1, .int .u8 h2, .int .u8 h3] 46] w2 := S1.trans T1
  clear T1 S1
  refine J.run 6 K7_2 [(32, .bool (seed == 0)), (6, .pointer (some ⟨b1, 0, none⟩)), (0, .int .u16 seed), (1, .int .u8 errors), (3, .int .u16 bye)] w2 (by kernel_rfl) ?_
  by_cases fk1 : seed = 0
  · skip
    refine J.head (.bool true) (congrArg Value.bool (beq_iff_eq.2 fk1)) ?_
    refine J.run 3 K7_3 [] w2 (by kernel_rfl) ?_
    refine J.callF 33 9 #[] hb9 (by kernel_rfl) (awake_any  _) ?_
    rintro _ w3 ⟨rfl, T2⟩
    have S3 : Sep w [box b1 [.int .u8 h0, .int .u8 h1, .int .u8 h2, .int .u8 h3] 46] w3 := S2.trans T2
    clear T2 S2
    refine J.run 2 K7_4 [(8, .bool true)] w3 (by kernel_rfl) ?_
    refine J.ret Try.f7 [.bool true] Try.func7 ⟨by kernel_rfl, trivial⟩ ?_
    refine hR _ _ ?_
    exact ⟨rfl, S3.nil⟩
  · skip
    refine J.head (.bool false) (congrArg Value.bool (beq_eq_false_iff_ne.2 fk1)) ?_
    refine J.run 6 K7_5 [(35, .int .i64 (IntKind.wrap .i64 seed)), (6, .pointer (some ⟨b1, 0, none⟩)), (1, .int .u8 errors), (3, .int .u16 bye)] w2 (by kernel_rfl) ?_
    refine J.head (.int .i64 seed) (congrArg (Value.int .i64) (IntWalk.i64_in _ (by omega))) ?_
    refine J.run 2 K7_6 [(37, .int .i64 (IntKind.wrap .i64 errors)), (35, .int .i64 seed), (6, .pointer (some ⟨b1, 0, none⟩)), (3, .int .u16 bye)] w2 (by kernel_rfl) ?_
    refine J.head (.int .i64 errors) (congrArg (Value.int .i64) (IntWalk.i64_in _ (by omega))) ?_
    refine J.run 1 K7_7 [(38, .int .i64 (Int.tmod errors 7)), (35, .int .i64 seed), (6, .pointer (some ⟨b1, 0, none⟩)), (3, .int .u16 bye)] w2 (by kernel_rfl) ?_
    refine J.head (.int .i64 (errors % 7)) (congrArg (Value.int .i64) (IntWalk.rem_in _ _ (by omega))) ?_
    refine J.run 1 K7_8 [(39, .agg #[.int .i64 seed, .int .i64 0, .int .i64 (errors % 7), .bool false, .bool false]), (6, .pointer (some ⟨b1, 0, none⟩)), (3, .int .u16 bye)] w2 (by kernel_rfl) ?_
    refine J.new S2 9 [.int .i64 0, .int .i64 0, .int .i64 0, .bool false, .bool false] 31 (by kernel_rfl) ?_
    intro b2 w4 S4
    refine J.stBox S4 0 31 0 (.agg #[.int .i64 seed, .int .i64 0, .int .i64 (errors % 7), .bool false, .bool false]) [.int .i64 seed, .int .i64 0, .int .i64 (errors % 7), .bool false, .bool false] [box b2 [.int .i64 seed, .int .i64 0, .int .i64 (errors % 7), .bool false, .bool false] 31, box b1 [.int .u8 h0, .int .u8 h1, .int .u8 h2, .int .u8 h3] 46] (by kernel_rfl) rfl (by kernel_rfl) (by kernel_rfl) rfl ?_
    intro w5 S5
    refine J.run 8 K7_9 [(10, .int .i64 0), (9, .pointer (some ⟨b2, 0, none⟩)), (6, .pointer (some ⟨b1, 0, none⟩)), (3, .int .u16 bye)] w5 (by kernel_rfl) ?_
    refine J.ok (OK.ldBox S5 1 40 46 0 (.agg #[.int .u8 h0, .int .u8 h1, .int .u8 h2, .int .u8 h3]) (by kernel_rfl) rfl (by kernel_rfl)) ?_
    refine J.run 2 K7_10 [(41, .int .i64 0), (40, .agg #[.int .u8 h0, .int .u8 h1, .int .u8 h2, .int .u8 h3]), (10, .int .i64 0), (9, .pointer (some ⟨b2, 0, none⟩)), (3, .int .u16 bye)] w5 (by kernel_rfl) ?_
    have X1 : ∀ (qx : Int) (ex : Int) (fx : Bool) (nowx : Int) (w6 : World), (1 ≤ qx ∧ qx ≤ 65535) → (ex = 7) → (fx = true) → (0 ≤ nowx ∧ nowx ≤ 1000000) → Sep w [box b2 [.int .i64 qx, .int .i64 0, .int .i64 ex, .bool false, .bool fx] 31, box b1 [.int .u8 h0, .int .u8 h1, .int .u8 h2, .int .u8 h3] 46] w6 → J Try.prog 7 187 R K7_11 [(9, .pointer (some ⟨b2, 0, none⟩)), (10, .int .i64 nowx)] w6 := by
      intro qx ex fx nowx w6 hqx hex hfx hnx S6
      refine J.run 4 K7_12 [(144, .pointer (some ⟨b2, 4, none⟩)), (9, .pointer (some ⟨b2, 0, none⟩)), (10, .int .i64 nowx)] w6 (by kernel_rfl) ?_
      refine J.ok (OK.ldBox S6 0 145 4 4 (.bool fx) (by kernel_rfl) rfl (by kernel_rfl)) ?_
      refine J.run 2 K7_13 [(147, .bool (!fx)), (9, .pointer (some ⟨b2, 0, none⟩)), (10, .int .i64 nowx)] w6 (by kernel_rfl) ?_
      have fk3 : fx = true := hfx
      refine J.head (.bool false) (congrArg Value.bool (by rw [fk3]; rfl)) ?_
      refine J.run 1 K7_14 [(148, .pointer (some ⟨b2, 2, none⟩)), (147, .bool false), (9, .pointer (some ⟨b2, 0, none⟩)), (10, .int .i64 nowx)] w6 (by kernel_rfl) ?_
      refine J.ok (OK.ldBox S6 0 149 3 2 (.int .i64 ex) (by kernel_rfl) rfl (by kernel_rfl)) ?_
      refine J.run 3 K7_15 [(151, .bool (ex != 7)), (9, .pointer (some ⟨b2, 0, none⟩)), (10, .int .i64 nowx)] w6 (by kernel_rfl) ?_
      have fk5 : ex = 7 := hex
      refine J.head (.bool false) (congrArg Value.bool (bne_eq_false_iff_eq.2 fk5)) ?_
      refine J.run 4 K7_16 [(9, .pointer (some ⟨b2, 0, none⟩)), (10, .int .i64 nowx)] w6 (by kernel_rfl) ?_
      refine J.ok (OK.ldBox S6 0 153 31 0 (.agg #[.int .i64 qx, .int .i64 0, .int .i64 ex, .bool false, .bool fx]) (by kernel_rfl) rfl (by kernel_rfl)) ?_
      refine J.run 1 K7_17 [(154, .int .i64 nowx), (153, .agg #[.int .i64 qx, .int .i64 0, .int .i64 ex, .bool false, .bool fx]), (9, .pointer (some ⟨b2, 0, none⟩)), (10, .int .i64 nowx)] w6 (by kernel_rfl) ?_
      have fk6 : (validB qx 0 ex false fx) = true := valid_off hqx hex hfx
      have fk7 : (instantB nowx) = true := instantB_iff.2 (by omega)
      refine J.callF 155 17 #[.agg #[.int .i64 qx, .int .i64 0, .int .i64 ex, .bool false, .bool fx], .int .i64 nowx] hb17 (by kernel_rfl) (ask_any qx 0 ex false fx nowx _) ?_
      rintro _ w7 ⟨rfl, T3⟩
      have S7 : Sep w [box b2 [.int .i64 qx, .int .i64 0, .int .i64 ex, .bool false, .bool fx] 31, box b1 [.int .u8 h0, .int .u8 h1, .int .u8 h2, .int .u8 h3] 46] w7 := S6.trans T3
      clear T3 S6
      refine J.head (.tuple #[.agg #[.int .i64 0, .int .i64 0, .int .i64 0, .bool false, .bool false], .int .i64 0, .int .i64 6]) (by (try simp only [askV, zeroQ, fk6, fk7]) <;> simp [askV, zeroQ, fk6, fk7, fk3]) ?_
      refine J.run 4 K7_18 [(158, .int .i64 6), (157, .int .i64 0), (156, .agg #[.int .i64 0, .int .i64 0, .int .i64 0, .bool false, .bool false]), (9, .pointer (some ⟨b2, 0, none⟩)), (10, .int .i64 nowx)] w7 (by kernel_rfl) ?_
      refine J.new S7 20 [.int .i64 0, .int .i64 0, .int .i64 0, .bool false, .bool false] 31 (by kernel_rfl) ?_
      intro b3 w8 S8
      refine J.stBox S8 0 31 0 (.agg #[.int .i64 0, .int .i64 0, .int .i64 0, .bool false, .bool false]) [.int .i64 0, .int .i64 0, .int .i64 0, .bool false, .bool false] [box b3 [.int .i64 0, .int .i64 0, .int .i64 0, .bool false, .bool false] 31, box b2 [.int .i64 qx, .int .i64 0, .int .i64 ex, .bool false, .bool fx] 31, box b1 [.int .u8 h0, .int .u8 h1, .int .u8 h2, .int .u8 h3] 46] (by kernel_rfl) rfl (by kernel_rfl) (by kernel_rfl) rfl ?_
      intro w9 S9
      refine J.run 5 K7_19 [(22, .int .i64 6), (9, .pointer (some ⟨b2, 0, none⟩)), (10, .int .i64 nowx)] w9 (by kernel_rfl) ?_
      refine J.ok (OK.ldBox S9 1 160 31 0 (.agg #[.int .i64 qx, .int .i64 0, .int .i64 ex, .bool false, .bool fx]) (by kernel_rfl) rfl (by kernel_rfl)) ?_
      refine J.run 1 K7_20 [(161, .int .i64 nowx), (160, .agg #[.int .i64 qx, .int .i64 0, .int .i64 ex, .bool false, .bool fx]), (22, .int .i64 6), (9, .pointer (some ⟨b2, 0, none⟩)), (10, .int .i64 nowx)] w9 (by kernel_rfl) ?_
      refine J.newSlice S9 162 1 [.int .i64 0] 3 (by kernel_rfl) ?_
      intro b4 w10 S10
      have fk8 : (partsB ([0])) = true := parts_one (by omega)
      have fk9 : (wordB 0) = true := wordB_iff.2 (by omega)
      refine J.callF 163 18 #[.agg #[.int .i64 qx, .int .i64 0, .int .i64 ex, .bool false, .bool fx], .int .i64 nowx, .int .i64 0, .slice (some ⟨b4, 0, none⟩) 1 1] hb18 (by kernel_rfl) (reply_any qx 0 ex false fx nowx 0 (some ⟨b4, 0, none⟩) 1 1 ([0]) _ ((box_ints [0] (S10.nth 0 rfl) rfl 1 rfl)) (by omega)) ?_
      rintro _ w11 ⟨rfl, T4⟩
      have S11 : Sep w [box b4 [.int .i64 0] 3, box b3 [.int .i64 0, .int .i64 0, .int .i64 0, .bool false, .bool false] 31, box b2 [.int .i64 qx, .int .i64 0, .int .i64 ex, .bool false, .bool fx] 31, box b1 [.int .u8 h0, .int .u8 h1, .int .u8 h2, .int .u8 h3] 46] w11 := S10.trans T4
      clear T4 S10
      refine J.head (.tuple #[.agg #[.int .i64 0, .int .i64 0, .int .i64 0, .bool false, .bool false], .int .i64 6]) (by first | (simp only [replyV, zeroQ, fk6, fk8, fk7, fk9, reduceCtorEq, ↓reduceIte]; done) | simp [replyV, zeroQ, fk6, fk8, fk7, fk9]) ?_
      refine J.run 3 K7_21 [(165, .int .i64 6), (164, .agg #[.int .i64 0, .int .i64 0, .int .i64 0, .bool false, .bool false]), (22, .int .i64 6), (9, .pointer (some ⟨b2, 0, none⟩)), (10, .int .i64 nowx)] w11 (by kernel_rfl) ?_
      refine J.new S11 23 [.int .i64 0, .int .i64 0, .int .i64 0, .bool false, .bool false] 31 (by kernel_rfl) ?_
      intro b5 w12 S12
      refine J.stBox S12 0 31 0 (.agg #[.int .i64 0, .int .i64 0, .int .i64 0, .bool false, .bool false]) [.int .i64 0, .int .i64 0, .int .i64 0, .bool false, .bool false] [box b5 [.int .i64 0, .int .i64 0, .int .i64 0, .bool false, .bool false] 31, box b4 [.int .i64 0] 3, box b3 [.int .i64 0, .int .i64 0, .int .i64 0, .bool false, .bool false] 31, box b2 [.int .i64 qx, .int .i64 0, .int .i64 ex, .bool false, .bool fx] 31, box b1 [.int .u8 h0, .int .u8 h1, .int .u8 h2, .int .u8 h3] 46] (by kernel_rfl) rfl (by kernel_rfl) (by kernel_rfl) rfl ?_
      intro w13 S13
      refine J.run 4 K7_22 [(24, .int .i64 6), (22, .int .i64 6), (9, .pointer (some ⟨b2, 0, none⟩)), (10, .int .i64 nowx)] w13 (by kernel_rfl) ?_
      refine J.ok (OK.ldBox S13 3 167 31 0 (.agg #[.int .i64 qx, .int .i64 0, .int .i64 ex, .bool false, .bool fx]) (by kernel_rfl) rfl (by kernel_rfl)) ?_
      refine J.run 1 K7_23 [(168, .int .i64 nowx), (167, .agg #[.int .i64 qx, .int .i64 0, .int .i64 ex, .bool false, .bool fx]), (24, .int .i64 6), (22, .int .i64 6), (9, .pointer (some ⟨b2, 0, none⟩))] w13 (by kernel_rfl) ?_
      refine J.callF 169 19 #[.agg #[.int .i64 qx, .int .i64 0, .int .i64 ex, .bool false, .bool fx], .int .i64 nowx] hb19 (by kernel_rfl) (tick_any qx 0 ex false fx nowx _) ?_
      rintro _ w14 ⟨rfl, T5⟩
      have S14 : Sep w [box b5 [.int .i64 0, .int .i64 0, .int .i64 0, .bool false, .bool false] 31, box b4 [.int .i64 0] 3, box b3 [.int .i64 0, .int .i64 0, .int .i64 0, .bool false, .bool false] 31, box b2 [.int .i64 qx, .int .i64 0, .int .i64 ex, .bool false, .bool fx] 31, box b1 [.int .u8 h0, .int .u8 h1, .int .u8 h2, .int .u8 h3] 46] w14 := S13.trans T5
      clear T5 S13
      refine J.head (.tuple #[.agg #[.int .i64 qx, .int .i64 0, .int .i64 ex, .bool false, .bool fx], .int .i64 0]) (by first | (simp only [tickV, zeroQ, fk6, fk7, reduceCtorEq, ↓reduceIte]; done) | simp [tickV, zeroQ, fk6, fk7]) ?_
      refine J.run 3 K7_24 [(171, .int .i64 0), (170, .agg #[.int .i64 qx, .int .i64 0, .int .i64 ex, .bool false, .bool fx]), (24, .int .i64 6), (22, .int .i64 6), (9, .pointer (some ⟨b2, 0, none⟩))] w14 (by kernel_rfl) ?_
      refine J.new S14 25 [.int .i64 0, .int .i64 0, .int .i64 0, .bool false, .bool false] 31 (by kernel_rfl) ?_
      intro b6 w15 S15
      refine J.stBox S15 0 31 0 (.agg #[.int .i64 qx, .int .i64 0, .int .i64 ex, .bool false, .bool fx]) [.int .i64 qx, .int .i64 0, .int .i64 ex, .bool false, .bool fx] [box b6 [.int .i64 qx, .int .i64 0, .int .i64 ex, .bool false, .bool fx] 31, box b5 [.int .i64 0, .int .i64 0, .int .i64 0, .bool false, .bool false] 31, box b4 [.int .i64 0] 3, box b3 [.int .i64 0, .int .i64 0, .int .i64 0, .bool false, .bool false] 31, box b2 [.int .i64 qx, .int .i64 0, .int .i64 ex, .bool false, .bool fx] 31, box b1 [.int .u8 h0, .int .u8 h1, .int .u8 h2, .int .u8 h3] 46] (by kernel_rfl) rfl (by kernel_rfl) (by kernel_rfl) rfl ?_
      intro w16 S16
      refine J.run 11 K7_25 [(178, .bool true), (26, .int .i64 0), (25, .pointer (some ⟨b6, 0, none⟩)), (9, .pointer (some ⟨b2, 0, none⟩))] w16 (by kernel_rfl) ?_
      refine J.ok (OK.ldBox S16 0 179 31 0 (.agg #[.int .i64 qx, .int .i64 0, .int .i64 ex, .bool false, .bool fx]) (by kernel_rfl) rfl (by kernel_rfl)) ?_
      refine J.ok (OK.ldBox S16 4 180 31 0 (.agg #[.int .i64 qx, .int .i64 0, .int .i64 ex, .bool false, .bool fx]) (by kernel_rfl) rfl (by kernel_rfl)) ?_
      refine J.ok (OK.eqS 181 true 31 #[.int .i64 qx, .int .i64 0, .int .i64 ex, .bool false, .bool fx] #[.int .i64 qx, .int .i64 0, .int .i64 ex, .bool false, .bool fx] ((qx == qx) && (((0 : Int) == 0) && ((ex == ex) && ((false == false) && ((fx == fx) && true))))) (by kernel_rfl) (by kernel_rfl) (by kernel_rfl) true (by simp)) ?_
      refine J.run 7 K7_26 [(8, .bool true)] w16 (by kernel_rfl) ?_
      refine J.ret Try.f7 [.bool true] Try.func7 ⟨by kernel_rfl, trivial⟩ ?_
      refine hR _ _ ?_
      exact ⟨rfl, S16.nil⟩
    refine J.run 20 K7_27 [(44, .pointer (some ⟨b2, 4, none⟩)), (12, .int .u8 h0), (41, .int .i64 0), (40, .agg #[.int .u8 h0, .int .u8 h1, .int .u8 h2, .int .u8 h3]), (10, .int .i64 0), (9, .pointer (some ⟨b2, 0, none⟩)), (3, .int .u16 bye)] w5 (by kernel_rfl) ?_
    refine J.ok (OK.ldBox S5 0 45 4 4 (.bool false) (by kernel_rfl) rfl (by kernel_rfl)) ?_
    refine J.run 5 K7_28 [(12, .int .u8 h0), (41, .int .i64 0), (40, .agg #[.int .u8 h0, .int .u8 h1, .int .u8 h2, .int .u8 h3]), (10, .int .i64 0), (9, .pointer (some ⟨b2, 0, none⟩)), (3, .int .u16 bye)] w5 (by kernel_rfl) ?_
    refine J.ok (OK.ldBox S5 0 47 31 0 (.agg #[.int .i64 seed, .int .i64 0, .int .i64 (errors % 7), .bool false, .bool false]) (by kernel_rfl) rfl (by kernel_rfl)) ?_
    refine J.run 1 K7_29 [(48, .int .i64 0), (47, .agg #[.int .i64 seed, .int .i64 0, .int .i64 (errors % 7), .bool false, .bool false]), (12, .int .u8 h0), (41, .int .i64 0), (40, .agg #[.int .u8 h0, .int .u8 h1, .int .u8 h2, .int .u8 h3]), (10, .int .i64 0), (9, .pointer (some ⟨b2, 0, none⟩)), (3, .int .u16 bye)] w5 (by kernel_rfl) ?_
    have hnq1 := nextF_bounds (n := seed) (by omega)
    have fk10 : (validB seed 0 (errors % 7) false false) = true := valid_of (by omega) (by omega) (.inr rfl) (by omega) (by first | rfl | assumption)
    have fk11 : (instantB 0) = true := instantB_iff.2 (by omega)
    refine J.callF 49 17 #[.agg #[.int .i64 seed, .int .i64 0, .int .i64 (errors % 7), .bool false, .bool false], .int .i64 0] hb17 (by kernel_rfl) (ask_any seed 0 (errors % 7) false false 0 _) ?_
    rintro _ w17 ⟨rfl, T6⟩
    have S17 : Sep w [box b2 [.int .i64 seed, .int .i64 0, .int .i64 (errors % 7), .bool false, .bool false] 31, box b1 [.int .u8 h0, .int .u8 h1, .int .u8 h2, .int .u8 h3] 46] w17 := S5.trans T6
    clear T6 S5
    refine J.head (.tuple #[.agg #[.int .i64 (nextF seed), .int .i64 0, .int .i64 (errors % 7), .bool true, .bool false], .int .i64 (nextF seed), .int .i64 0]) (by first | (simp only [askV, zeroQ, fk10, fk11, reduceCtorEq, ↓reduceIte]; done) | simp [askV, zeroQ, fk10, fk11]) ?_
    refine J.run 4 K7_30 [(52, .int .i64 0), (51, .int .i64 (nextF seed)), (50, .agg #[.int .i64 (nextF seed), .int .i64 0, .int .i64 (errors % 7), .bool true, .bool false]), (12, .int .u8 h0), (41, .int .i64 0), (40, .agg #[.int .u8 h0, .int .u8 h1, .int .u8 h2, .int .u8 h3]), (10, .int .i64 0), (9, .pointer (some ⟨b2, 0, none⟩)), (3, .int .u16 bye)] w17 (by kernel_rfl) ?_
    refine J.new S17 13 [.int .i64 0, .int .i64 0, .int .i64 0, .bool false, .bool false] 31 (by kernel_rfl) ?_
    intro b7 w18 S18
    refine J.stBox S18 0 31 0 (.agg #[.int .i64 (nextF seed), .int .i64 0, .int .i64 (errors % 7), .bool true, .bool false]) [.int .i64 (nextF seed), .int .i64 0, .int .i64 (errors % 7), .bool true, .bool false] [box b7 [.int .i64 (nextF seed), .int .i64 0, .int .i64 (errors % 7), .bool true, .bool false] 31, box b2 [.int .i64 seed, .int .i64 0, .int .i64 (errors % 7), .bool false, .bool false] 31, box b1 [.int .u8 h0, .int .u8 h1, .int .u8 h2, .int .u8 h3] 46] (by kernel_rfl) rfl (by kernel_rfl) (by kernel_rfl) rfl ?_
    intro w19 S19
    refine J.run 7 K7_31 [(54, .int .i64 (IntKind.wrap .i64 bye)), (15, .int .i64 0), (14, .int .i64 (nextF seed)), (13, .pointer (some ⟨b7, 0, none⟩)), (12, .int .u8 h0), (41, .int .i64 0), (40, .agg #[.int .u8 h0, .int .u8 h1, .int .u8 h2, .int .u8 h3]), (10, .int .i64 0), (9, .pointer (some ⟨b2, 0, none⟩)), (3, .int .u16 bye)] w19 (by kernel_rfl) ?_
    refine J.head (.int .i64 bye) (congrArg (Value.int .i64) (IntWalk.i64_in _ (by omega))) ?_
    refine J.newSlice S19 55 1 [.int .i64 bye] 3 (by kernel_rfl) ?_
    intro b8 w20 S20
    refine J.run 6 K7_32 [(58, .slice (some ⟨b8, 0, none⟩) 1 1), (57, .int .i64 (nextF seed)), (16, .slice (some ⟨b8, 0, none⟩) 1 1), (15, .int .i64 0), (13, .pointer (some ⟨b7, 0, none⟩)), (12, .int .u8 h0), (41, .int .i64 0), (40, .agg #[.int .u8 h0, .int .u8 h1, .int .u8 h2, .int .u8 h3]), (10, .int .i64 0), (9, .pointer (some ⟨b2, 0, none⟩)), (3, .int .u16 bye)] w20 (by kernel_rfl) ?_
    have fk12 : (partsB ([bye])) = true := parts_one (by omega)
    have fk13 : (questionB (nextF seed)) = true := questionB_iff.2 (by omega)
    refine J.callF 59 10 #[.int .i64 (nextF seed), .slice (some ⟨b8, 0, none⟩) 1 1] hb10 (by kernel_rfl) (answer_any (nextF seed) (some ⟨b8, 0, none⟩) 1 1 ([bye]) _ ((box_ints [bye] (S20.nth 0 rfl) rfl 1 rfl)) (by omega)) ?_
    rintro _ w21 ⟨rfl, T7⟩
    have S21 : Sep w [box b8 [.int .i64 bye] 3, box b7 [.int .i64 (nextF seed), .int .i64 0, .int .i64 (errors % 7), .bool true, .bool false] 31, box b2 [.int .i64 seed, .int .i64 0, .int .i64 (errors % 7), .bool false, .bool false] 31, box b1 [.int .u8 h0, .int .u8 h1, .int .u8 h2, .int .u8 h3] 46] w21 := S20.trans T7
    clear T7 S20
    refine J.head (.tuple #[.int .i64 (ansF (nextF seed) ([bye])), .int .i64 0]) (by first | (simp only [ansV, fk12, fk13, reduceCtorEq, ↓reduceIte]; done) | simp [ansV, fk12, fk13]) ?_
    have hans1 : 0 ≤ ansF (nextF seed) ([bye]) ∧ ansF (nextF seed) ([bye]) ≤ 65535 := ansF_bounds (by omega) _
    refine J.run 27 K7_33 [(69, .int .u8 (Int.tmod h0 4)), (17, .int .i64 (ansF (nextF seed) ([bye]))), (16, .slice (some ⟨b8, 0, none⟩) 1 1), (13, .pointer (some ⟨b7, 0, none⟩)), (41, .int .i64 0), (40, .agg #[.int .u8 h0, .int .u8 h1, .int .u8 h2, .int .u8 h3]), (10, .int .i64 0), (9, .pointer (some ⟨b2, 0, none⟩)), (3, .int .u16 bye)] w21 (by kernel_rfl) ?_
    refine J.head (.int .u8 (h0 % 4)) (congrArg (Value.int .u8) (IntWalk.rem_in _ _ (by omega))) ?_
    refine J.run 1 K7_34 [(69, .int .u8 (h0 % 4)), (17, .int .i64 (ansF (nextF seed) ([bye]))), (16, .slice (some ⟨b8, 0, none⟩) 1 1), (13, .pointer (some ⟨b7, 0, none⟩)), (41, .int .i64 0), (40, .agg #[.int .u8 h0, .int .u8 h1, .int .u8 h2, .int .u8 h3]), (10, .int .i64 0), (9, .pointer (some ⟨b2, 0, none⟩)), (3, .int .u16 bye)] w21 (by kernel_rfl) ?_
    have hend1 := endF (e := errors % 7) (by omega)
    have hnx1 := nextF_bounds (n := seed) (by omega)
    have X2 : ∀ (q1 : Int) (e1 : Int) (f1 : Bool) (w22 : World), (1 ≤ q1 ∧ q1 ≤ 65535) → (e1 = min 7 ((errors % 7) + 2)) → (f1 = (e1 == 7)) → Sep w [box b8 [.int .i64 bye] 3, box b7 [.int .i64 q1, .int .i64 0, .int .i64 e1, .bool false, .bool f1] 31, box b2 [.int .i64 seed, .int .i64 0, .int .i64 (errors % 7), .bool false, .bool false] 31, box b1 [.int .u8 h0, .int .u8 h1, .int .u8 h2, .int .u8 h3] 46] w22 → J Try.prog 7 187 R K7_35 [(13, .pointer (some ⟨b7, 0, none⟩)), (41, .int .i64 0), (40, .agg #[.int .u8 h0, .int .u8 h1, .int .u8 h2, .int .u8 h3]), (10, .int .i64 0), (9, .pointer (some ⟨b2, 0, none⟩)), (3, .int .u16 bye), (19, .int .i64 0)] w22 := by
      intro q1 e1 f1 w22 hq1 he1 hf1 S22
      refine J.run 7 K7_36 [(128, .pointer (some ⟨b7, 3, none⟩)), (127, .bool false), (13, .pointer (some ⟨b7, 0, none⟩)), (41, .int .i64 0), (40, .agg #[.int .u8 h0, .int .u8 h1, .int .u8 h2, .int .u8 h3]), (10, .int .i64 0), (9, .pointer (some ⟨b2, 0, none⟩)), (3, .int .u16 bye)] w22 (by kernel_rfl) ?_
      refine J.ok (OK.ldBox S22 1 129 4 3 (.bool false) (by kernel_rfl) rfl (by kernel_rfl)) ?_
      refine J.run 3 K7_37 [(132, .pointer (some ⟨b7, 2, none⟩)), (131, .bool false), (13, .pointer (some ⟨b7, 0, none⟩)), (41, .int .i64 0), (40, .agg #[.int .u8 h0, .int .u8 h1, .int .u8 h2, .int .u8 h3]), (10, .int .i64 0), (9, .pointer (some ⟨b2, 0, none⟩)), (3, .int .u16 bye)] w22 (by kernel_rfl) ?_
      refine J.ok (OK.ldBox S22 1 133 3 2 (.int .i64 e1) (by kernel_rfl) rfl (by kernel_rfl)) ?_
      refine J.run 1 K7_38 [(134, .pointer (some ⟨b2, 2, none⟩)), (133, .int .i64 e1), (131, .bool false), (13, .pointer (some ⟨b7, 0, none⟩)), (41, .int .i64 0), (40, .agg #[.int .u8 h0, .int .u8 h1, .int .u8 h2, .int .u8 h3]), (10, .int .i64 0), (9, .pointer (some ⟨b2, 0, none⟩)), (3, .int .u16 bye)] w22 (by kernel_rfl) ?_
      refine J.ok (OK.ldBox S22 2 135 3 2 (.int .i64 (errors % 7)) (by kernel_rfl) rfl (by kernel_rfl)) ?_
      refine J.run 1 K7_39 [(136, .int .i64 (IntKind.wrap .i64 ((errors % 7) + 2))), (133, .int .i64 e1), (131, .bool false), (13, .pointer (some ⟨b7, 0, none⟩)), (41, .int .i64 0), (40, .agg #[.int .u8 h0, .int .u8 h1, .int .u8 h2, .int .u8 h3]), (10, .int .i64 0), (9, .pointer (some ⟨b2, 0, none⟩)), (3, .int .u16 bye)] w22 (by kernel_rfl) ?_
      refine J.head (.int .i64 ((errors % 7) + 2)) (congrArg (Value.int .i64) (IntWalk.i64_in _ (by omega))) ?_
      refine J.run 1 K7_40 [(137, .int .i64 (if ((errors % 7) + 2) < 7 then ((errors % 7) + 2) else 7)), (133, .int .i64 e1), (131, .bool false), (13, .pointer (some ⟨b7, 0, none⟩)), (41, .int .i64 0), (40, .agg #[.int .u8 h0, .int .u8 h1, .int .u8 h2, .int .u8 h3]), (10, .int .i64 0), (9, .pointer (some ⟨b2, 0, none⟩)), (3, .int .u16 bye)] w22 (by kernel_rfl) ?_
      refine J.head (.int .i64 (min 7 ((errors % 7) + 2))) (congrArg (Value.int .i64) (by omega)) ?_
      refine J.run 3 K7_41 [(139, .bool (e1 != (min 7 ((errors % 7) + 2)))), (13, .pointer (some ⟨b7, 0, none⟩)), (41, .int .i64 0), (40, .agg #[.int .u8 h0, .int .u8 h1, .int .u8 h2, .int .u8 h3]), (10, .int .i64 0), (9, .pointer (some ⟨b2, 0, none⟩)), (3, .int .u16 bye)] w22 (by kernel_rfl) ?_
      have fk15 : e1 = (min 7 ((errors % 7) + 2)) := by omega
      refine J.head (.bool false) (congrArg Value.bool (bne_eq_false_iff_eq.2 fk15)) ?_
      refine J.run 4 K7_42 [(13, .pointer (some ⟨b7, 0, none⟩)), (41, .int .i64 0), (40, .agg #[.int .u8 h0, .int .u8 h1, .int .u8 h2, .int .u8 h3]), (10, .int .i64 0), (9, .pointer (some ⟨b2, 0, none⟩)), (3, .int .u16 bye)] w22 (by kernel_rfl) ?_
      refine J.ok (OK.ldBox S22 1 140 31 0 (.agg #[.int .i64 q1, .int .i64 0, .int .i64 e1, .bool false, .bool f1]) (by kernel_rfl) rfl (by kernel_rfl)) ?_
      refine J.stBox S22 2 31 0 (.agg #[.int .i64 q1, .int .i64 0, .int .i64 e1, .bool false, .bool f1]) [.int .i64 q1, .int .i64 0, .int .i64 e1, .bool false, .bool f1] [box b8 [.int .i64 bye] 3, box b7 [.int .i64 q1, .int .i64 0, .int .i64 e1, .bool false, .bool f1] 31, box b2 [.int .i64 q1, .int .i64 0, .int .i64 e1, .bool false, .bool f1] 31, box b1 [.int .u8 h0, .int .u8 h1, .int .u8 h2, .int .u8 h3] 46] (by kernel_rfl) rfl (by kernel_rfl) (by kernel_rfl) rfl ?_
      intro w23 S23
      refine J.run 30 K7_43 [(44, .pointer (some ⟨b2, 4, none⟩)), (12, .int .u8 h1), (41, .int .i64 1), (10, .int .i64 100000), (40, .agg #[.int .u8 h0, .int .u8 h1, .int .u8 h2, .int .u8 h3]), (9, .pointer (some ⟨b2, 0, none⟩)), (3, .int .u16 bye)] w23 (by kernel_rfl) ?_
      refine J.ok (OK.ldBox S23 2 45 4 4 (.bool f1) (by kernel_rfl) rfl (by kernel_rfl)) ?_
      refine J.run 1 K7_44 [(45, .bool f1), (12, .int .u8 h1), (41, .int .i64 1), (10, .int .i64 100000), (40, .agg #[.int .u8 h0, .int .u8 h1, .int .u8 h2, .int .u8 h3]), (9, .pointer (some ⟨b2, 0, none⟩)), (3, .int .u16 bye)] w23 (by kernel_rfl) ?_
      rcases Bool.eq_false_or_eq_true f1 with fk16 | fk16
      · skip
        refine J.head (.bool true) (congrArg Value.bool fk16) ?_
        have fb1 : e1 = 7 := by have h_ := fk16; rw [hf1] at h_; simpa using h_
        refine J.run 2 K7_11 [(9, .pointer (some ⟨b2, 0, none⟩)), (10, .int .i64 100000)] w23 (by kernel_rfl) ?_
        have S24 : Sep w [box b8 [.int .i64 bye] 3, box b2 [.int .i64 q1, .int .i64 0, .int .i64 e1, .bool false, .bool f1] 31, box b1 [.int .u8 h0, .int .u8 h1, .int .u8 h2, .int .u8 h3] 46] w23 := S23.erase 1
        clear S23
        have S25 : Sep w [box b2 [.int .i64 q1, .int .i64 0, .int .i64 e1, .bool false, .bool f1] 31, box b1 [.int .u8 h0, .int .u8 h1, .int .u8 h2, .int .u8 h3] 46] w23 := S24.erase 0
        clear S24
        exact X1 q1 e1 f1 100000 w23 (by omega) (by omega) (by first | assumption | (simp [*]; omega)) (by omega) S25
      · skip
        refine J.head (.bool false) (congrArg Value.bool fk16) ?_
        have fb2 : e1 ≠ 7 := by have h_ := fk16; rw [hf1] at h_; simpa using h_
        refine J.run 4 K7_45 [(12, .int .u8 h1), (41, .int .i64 1), (10, .int .i64 100000), (40, .agg #[.int .u8 h0, .int .u8 h1, .int .u8 h2, .int .u8 h3]), (9, .pointer (some ⟨b2, 0, none⟩)), (3, .int .u16 bye)] w23 (by kernel_rfl) ?_
        refine J.ok (OK.ldBox S23 2 47 31 0 (.agg #[.int .i64 q1, .int .i64 0, .int .i64 e1, .bool false, .bool f1]) (by kernel_rfl) rfl (by kernel_rfl)) ?_
        refine J.run 1 K7_46 [(48, .int .i64 100000), (47, .agg #[.int .i64 q1, .int .i64 0, .int .i64 e1, .bool false, .bool f1]), (12, .int .u8 h1), (41, .int .i64 1), (10, .int .i64 100000), (40, .agg #[.int .u8 h0, .int .u8 h1, .int .u8 h2, .int .u8 h3]), (9, .pointer (some ⟨b2, 0, none⟩)), (3, .int .u16 bye)] w23 (by kernel_rfl) ?_
        have hnq2 := nextF_bounds (n := q1) (by omega)
        have fk17 : (validB q1 0 e1 false f1) = true := valid_of (by omega) (by omega) (.inr rfl) (by omega) (by first | rfl | assumption)
        have fk18 : (instantB 100000) = true := instantB_iff.2 (by omega)
        refine J.callF 49 17 #[.agg #[.int .i64 q1, .int .i64 0, .int .i64 e1, .bool false, .bool f1], .int .i64 100000] hb17 (by kernel_rfl) (ask_any q1 0 e1 false f1 100000 _) ?_
        rintro _ w24 ⟨rfl, T8⟩
        have S26 : Sep w [box b8 [.int .i64 bye] 3, box b7 [.int .i64 q1, .int .i64 0, .int .i64 e1, .bool false, .bool f1] 31, box b2 [.int .i64 q1, .int .i64 0, .int .i64 e1, .bool false, .bool f1] 31, box b1 [.int .u8 h0, .int .u8 h1, .int .u8 h2, .int .u8 h3] 46] w24 := S23.trans T8
        clear T8 S23
        refine J.head (.tuple #[.agg #[.int .i64 (nextF q1), .int .i64 100000, .int .i64 e1, .bool true, .bool false], .int .i64 (nextF q1), .int .i64 0]) (by (try simp only [askV, zeroQ, fk17, fk18]) <;> simp [askV, zeroQ, fk17, fk18, fk16]) ?_
        refine J.run 4 K7_47 [(52, .int .i64 0), (51, .int .i64 (nextF q1)), (50, .agg #[.int .i64 (nextF q1), .int .i64 100000, .int .i64 e1, .bool true, .bool false]), (12, .int .u8 h1), (41, .int .i64 1), (10, .int .i64 100000), (40, .agg #[.int .u8 h0, .int .u8 h1, .int .u8 h2, .int .u8 h3]), (9, .pointer (some ⟨b2, 0, none⟩)), (3, .int .u16 bye)] w24 (by kernel_rfl) ?_
        refine J.new S26 13 [.int .i64 0, .int .i64 0, .int .i64 0, .bool false, .bool false] 31 (by kernel_rfl) ?_
        intro b9 w25 S27
        refine J.stBox S27 0 31 0 (.agg #[.int .i64 (nextF q1), .int .i64 100000, .int .i64 e1, .bool true, .bool false]) [.int .i64 (nextF q1), .int .i64 100000, .int .i64 e1, .bool true, .bool false] [box b9 [.int .i64 (nextF q1), .int .i64 100000, .int .i64 e1, .bool true, .bool false] 31, box b8 [.int .i64 bye] 3, box b7 [.int .i64 q1, .int .i64 0, .int .i64 e1, .bool false, .bool f1] 31, box b2 [.int .i64 q1, .int .i64 0, .int .i64 e1, .bool false, .bool f1] 31, box b1 [.int .u8 h0, .int .u8 h1, .int .u8 h2, .int .u8 h3] 46] (by kernel_rfl) rfl (by kernel_rfl) (by kernel_rfl) rfl ?_
        intro w26 S28
        refine J.run 7 K7_48 [(54, .int .i64 (IntKind.wrap .i64 bye)), (15, .int .i64 0), (14, .int .i64 (nextF q1)), (13, .pointer (some ⟨b9, 0, none⟩)), (12, .int .u8 h1), (41, .int .i64 1), (10, .int .i64 100000), (40, .agg #[.int .u8 h0, .int .u8 h1, .int .u8 h2, .int .u8 h3]), (9, .pointer (some ⟨b2, 0, none⟩)), (3, .int .u16 bye)] w26 (by kernel_rfl) ?_
        refine J.head (.int .i64 bye) (congrArg (Value.int .i64) (IntWalk.i64_in _ (by omega))) ?_
        refine J.newSlice S28 55 1 [.int .i64 bye] 3 (by kernel_rfl) ?_
        intro b10 w27 S29
        refine J.run 6 K7_49 [(58, .slice (some ⟨b10, 0, none⟩) 1 1), (57, .int .i64 (nextF q1)), (16, .slice (some ⟨b10, 0, none⟩) 1 1), (15, .int .i64 0), (13, .pointer (some ⟨b9, 0, none⟩)), (12, .int .u8 h1), (41, .int .i64 1), (10, .int .i64 100000), (40, .agg #[.int .u8 h0, .int .u8 h1, .int .u8 h2, .int .u8 h3]), (9, .pointer (some ⟨b2, 0, none⟩)), (3, .int .u16 bye)] w27 (by kernel_rfl) ?_
        have fk19 : (questionB (nextF q1)) = true := questionB_iff.2 (by omega)
        refine J.callF 59 10 #[.int .i64 (nextF q1), .slice (some ⟨b10, 0, none⟩) 1 1] hb10 (by kernel_rfl) (answer_any (nextF q1) (some ⟨b10, 0, none⟩) 1 1 ([bye]) _ ((box_ints [bye] (S29.nth 0 rfl) rfl 1 rfl)) (by omega)) ?_
        rintro _ w28 ⟨rfl, T9⟩
        have S30 : Sep w [box b10 [.int .i64 bye] 3, box b9 [.int .i64 (nextF q1), .int .i64 100000, .int .i64 e1, .bool true, .bool false] 31, box b8 [.int .i64 bye] 3, box b7 [.int .i64 q1, .int .i64 0, .int .i64 e1, .bool false, .bool f1] 31, box b2 [.int .i64 q1, .int .i64 0, .int .i64 e1, .bool false, .bool f1] 31, box b1 [.int .u8 h0, .int .u8 h1, .int .u8 h2, .int .u8 h3] 46] w28 := S29.trans T9
        clear T9 S29
        refine J.head (.tuple #[.int .i64 (ansF (nextF q1) ([bye])), .int .i64 0]) (by first | (simp only [ansV, fk12, fk19, reduceCtorEq, ↓reduceIte]; done) | simp [ansV, fk12, fk19]) ?_
        have hans2 : 0 ≤ ansF (nextF q1) ([bye]) ∧ ansF (nextF q1) ([bye]) ≤ 65535 := ansF_bounds (by omega) _
        refine J.run 27 K7_50 [(69, .int .u8 (Int.tmod h1 4)), (17, .int .i64 (ansF (nextF q1) ([bye]))), (16, .slice (some ⟨b10, 0, none⟩) 1 1), (13, .pointer (some ⟨b9, 0, none⟩)), (41, .int .i64 1), (10, .int .i64 100000), (40, .agg #[.int .u8 h0, .int .u8 h1, .int .u8 h2, .int .u8 h3]), (9, .pointer (some ⟨b2, 0, none⟩)), (3, .int .u16 bye)] w28 (by kernel_rfl) ?_
        refine J.head (.int .u8 (h1 % 4)) (congrArg (Value.int .u8) (IntWalk.rem_in _ _ (by omega))) ?_
        refine J.run 1 K7_51 [(69, .int .u8 (h1 % 4)), (17, .int .i64 (ansF (nextF q1) ([bye]))), (16, .slice (some ⟨b10, 0, none⟩) 1 1), (13, .pointer (some ⟨b9, 0, none⟩)), (41, .int .i64 1), (10, .int .i64 100000), (40, .agg #[.int .u8 h0, .int .u8 h1, .int .u8 h2, .int .u8 h3]), (9, .pointer (some ⟨b2, 0, none⟩)), (3, .int .u16 bye)] w28 (by kernel_rfl) ?_
        have hend2 := endF (e := e1) (by omega)
        have hnx2 := nextF_bounds (n := q1) (by omega)
        have X3 : ∀ (q2 : Int) (e2 : Int) (f2 : Bool) (w29 : World), (1 ≤ q2 ∧ q2 ≤ 65535) → (e2 = min 7 (e1 + 2)) → (f2 = (e2 == 7)) → Sep w [box b10 [.int .i64 bye] 3, box b9 [.int .i64 q2, .int .i64 0, .int .i64 e2, .bool false, .bool f2] 31, box b8 [.int .i64 bye] 3, box b7 [.int .i64 q1, .int .i64 0, .int .i64 e1, .bool false, .bool f1] 31, box b2 [.int .i64 q1, .int .i64 0, .int .i64 e1, .bool false, .bool f1] 31, box b1 [.int .u8 h0, .int .u8 h1, .int .u8 h2, .int .u8 h3] 46] w29 → J Try.prog 7 187 R K7_52 [(13, .pointer (some ⟨b9, 0, none⟩)), (41, .int .i64 1), (10, .int .i64 100000), (40, .agg #[.int .u8 h0, .int .u8 h1, .int .u8 h2, .int .u8 h3]), (9, .pointer (some ⟨b2, 0, none⟩)), (3, .int .u16 bye), (19, .int .i64 0)] w29 := by
          intro q2 e2 f2 w29 hq2 he2 hf2 S31
          refine J.run 7 K7_53 [(128, .pointer (some ⟨b9, 3, none⟩)), (127, .bool false), (13, .pointer (some ⟨b9, 0, none⟩)), (41, .int .i64 1), (10, .int .i64 100000), (40, .agg #[.int .u8 h0, .int .u8 h1, .int .u8 h2, .int .u8 h3]), (9, .pointer (some ⟨b2, 0, none⟩)), (3, .int .u16 bye)] w29 (by kernel_rfl) ?_
          refine J.ok (OK.ldBox S31 1 129 4 3 (.bool false) (by kernel_rfl) rfl (by kernel_rfl)) ?_
          refine J.run 3 K7_54 [(132, .pointer (some ⟨b9, 2, none⟩)), (131, .bool false), (13, .pointer (some ⟨b9, 0, none⟩)), (41, .int .i64 1), (10, .int .i64 100000), (40, .agg #[.int .u8 h0, .int .u8 h1, .int .u8 h2, .int .u8 h3]), (9, .pointer (some ⟨b2, 0, none⟩)), (3, .int .u16 bye)] w29 (by kernel_rfl) ?_
          refine J.ok (OK.ldBox S31 1 133 3 2 (.int .i64 e2) (by kernel_rfl) rfl (by kernel_rfl)) ?_
          refine J.run 1 K7_55 [(134, .pointer (some ⟨b2, 2, none⟩)), (133, .int .i64 e2), (131, .bool false), (13, .pointer (some ⟨b9, 0, none⟩)), (41, .int .i64 1), (10, .int .i64 100000), (40, .agg #[.int .u8 h0, .int .u8 h1, .int .u8 h2, .int .u8 h3]), (9, .pointer (some ⟨b2, 0, none⟩)), (3, .int .u16 bye)] w29 (by kernel_rfl) ?_
          refine J.ok (OK.ldBox S31 4 135 3 2 (.int .i64 e1) (by kernel_rfl) rfl (by kernel_rfl)) ?_
          refine J.run 1 K7_56 [(136, .int .i64 (IntKind.wrap .i64 (e1 + 2))), (133, .int .i64 e2), (131, .bool false), (13, .pointer (some ⟨b9, 0, none⟩)), (41, .int .i64 1), (10, .int .i64 100000), (40, .agg #[.int .u8 h0, .int .u8 h1, .int .u8 h2, .int .u8 h3]), (9, .pointer (some ⟨b2, 0, none⟩)), (3, .int .u16 bye)] w29 (by kernel_rfl) ?_
          refine J.head (.int .i64 (e1 + 2)) (congrArg (Value.int .i64) (IntWalk.i64_in _ (by omega))) ?_
          refine J.run 1 K7_57 [(137, .int .i64 (if (e1 + 2) < 7 then (e1 + 2) else 7)), (133, .int .i64 e2), (131, .bool false), (13, .pointer (some ⟨b9, 0, none⟩)), (41, .int .i64 1), (10, .int .i64 100000), (40, .agg #[.int .u8 h0, .int .u8 h1, .int .u8 h2, .int .u8 h3]), (9, .pointer (some ⟨b2, 0, none⟩)), (3, .int .u16 bye)] w29 (by kernel_rfl) ?_
          refine J.head (.int .i64 (min 7 (e1 + 2))) (congrArg (Value.int .i64) (by omega)) ?_
          refine J.run 3 K7_58 [(139, .bool (e2 != (min 7 (e1 + 2)))), (13, .pointer (some ⟨b9, 0, none⟩)), (41, .int .i64 1), (10, .int .i64 100000), (40, .agg #[.int .u8 h0, .int .u8 h1, .int .u8 h2, .int .u8 h3]), (9, .pointer (some ⟨b2, 0, none⟩)), (3, .int .u16 bye)] w29 (by kernel_rfl) ?_
          have fk21 : e2 = (min 7 (e1 + 2)) := by omega
          refine J.head (.bool false) (congrArg Value.bool (bne_eq_false_iff_eq.2 fk21)) ?_
          refine J.run 4 K7_59 [(13, .pointer (some ⟨b9, 0, none⟩)), (41, .int .i64 1), (10, .int .i64 100000), (40, .agg #[.int .u8 h0, .int .u8 h1, .int .u8 h2, .int .u8 h3]), (9, .pointer (some ⟨b2, 0, none⟩)), (3, .int .u16 bye)] w29 (by kernel_rfl) ?_
          refine J.ok (OK.ldBox S31 1 140 31 0 (.agg #[.int .i64 q2, .int .i64 0, .int .i64 e2, .bool false, .bool f2]) (by kernel_rfl) rfl (by kernel_rfl)) ?_
          refine J.stBox S31 4 31 0 (.agg #[.int .i64 q2, .int .i64 0, .int .i64 e2, .bool false, .bool f2]) [.int .i64 q2, .int .i64 0, .int .i64 e2, .bool false, .bool f2] [box b10 [.int .i64 bye] 3, box b9 [.int .i64 q2, .int .i64 0, .int .i64 e2, .bool false, .bool f2] 31, box b8 [.int .i64 bye] 3, box b7 [.int .i64 q1, .int .i64 0, .int .i64 e1, .bool false, .bool f1] 31, box b2 [.int .i64 q2, .int .i64 0, .int .i64 e2, .bool false, .bool f2] 31, box b1 [.int .u8 h0, .int .u8 h1, .int .u8 h2, .int .u8 h3] 46] (by kernel_rfl) rfl (by kernel_rfl) (by kernel_rfl) rfl ?_
          intro w30 S32
          refine J.run 30 K7_60 [(44, .pointer (some ⟨b2, 4, none⟩)), (12, .int .u8 h2), (41, .int .i64 2), (10, .int .i64 200000), (40, .agg #[.int .u8 h0, .int .u8 h1, .int .u8 h2, .int .u8 h3]), (9, .pointer (some ⟨b2, 0, none⟩)), (3, .int .u16 bye)] w30 (by kernel_rfl) ?_
          refine J.ok (OK.ldBox S32 4 45 4 4 (.bool f2) (by kernel_rfl) rfl (by kernel_rfl)) ?_
          refine J.run 1 K7_61 [(45, .bool f2), (12, .int .u8 h2), (41, .int .i64 2), (10, .int .i64 200000), (40, .agg #[.int .u8 h0, .int .u8 h1, .int .u8 h2, .int .u8 h3]), (9, .pointer (some ⟨b2, 0, none⟩)), (3, .int .u16 bye)] w30 (by kernel_rfl) ?_
          rcases Bool.eq_false_or_eq_true f2 with fk22 | fk22
          · skip
            refine J.head (.bool true) (congrArg Value.bool fk22) ?_
            have fb3 : e2 = 7 := by have h_ := fk22; rw [hf2] at h_; simpa using h_
            refine J.run 2 K7_11 [(9, .pointer (some ⟨b2, 0, none⟩)), (10, .int .i64 200000)] w30 (by kernel_rfl) ?_
            have S33 : Sep w [box b10 [.int .i64 bye] 3, box b9 [.int .i64 q2, .int .i64 0, .int .i64 e2, .bool false, .bool f2] 31, box b8 [.int .i64 bye] 3, box b2 [.int .i64 q2, .int .i64 0, .int .i64 e2, .bool false, .bool f2] 31, box b1 [.int .u8 h0, .int .u8 h1, .int .u8 h2, .int .u8 h3] 46] w30 := S32.erase 3
            clear S32
            have S34 : Sep w [box b10 [.int .i64 bye] 3, box b9 [.int .i64 q2, .int .i64 0, .int .i64 e2, .bool false, .bool f2] 31, box b2 [.int .i64 q2, .int .i64 0, .int .i64 e2, .bool false, .bool f2] 31, box b1 [.int .u8 h0, .int .u8 h1, .int .u8 h2, .int .u8 h3] 46] w30 := S33.erase 2
            clear S33
            have S35 : Sep w [box b10 [.int .i64 bye] 3, box b2 [.int .i64 q2, .int .i64 0, .int .i64 e2, .bool false, .bool f2] 31, box b1 [.int .u8 h0, .int .u8 h1, .int .u8 h2, .int .u8 h3] 46] w30 := S34.erase 1
            clear S34
            have S36 : Sep w [box b2 [.int .i64 q2, .int .i64 0, .int .i64 e2, .bool false, .bool f2] 31, box b1 [.int .u8 h0, .int .u8 h1, .int .u8 h2, .int .u8 h3] 46] w30 := S35.erase 0
            clear S35
            exact X1 q2 e2 f2 200000 w30 (by omega) (by omega) (by first | assumption | (simp [*]; omega)) (by omega) S36
          · skip
            refine J.head (.bool false) (congrArg Value.bool fk22) ?_
            have fb4 : e2 ≠ 7 := by have h_ := fk22; rw [hf2] at h_; simpa using h_
            refine J.run 4 K7_62 [(12, .int .u8 h2), (41, .int .i64 2), (10, .int .i64 200000), (40, .agg #[.int .u8 h0, .int .u8 h1, .int .u8 h2, .int .u8 h3]), (9, .pointer (some ⟨b2, 0, none⟩)), (3, .int .u16 bye)] w30 (by kernel_rfl) ?_
            refine J.ok (OK.ldBox S32 4 47 31 0 (.agg #[.int .i64 q2, .int .i64 0, .int .i64 e2, .bool false, .bool f2]) (by kernel_rfl) rfl (by kernel_rfl)) ?_
            refine J.run 1 K7_63 [(48, .int .i64 200000), (47, .agg #[.int .i64 q2, .int .i64 0, .int .i64 e2, .bool false, .bool f2]), (12, .int .u8 h2), (41, .int .i64 2), (10, .int .i64 200000), (40, .agg #[.int .u8 h0, .int .u8 h1, .int .u8 h2, .int .u8 h3]), (9, .pointer (some ⟨b2, 0, none⟩)), (3, .int .u16 bye)] w30 (by kernel_rfl) ?_
            have hnq3 := nextF_bounds (n := q2) (by omega)
            have fk23 : (validB q2 0 e2 false f2) = true := valid_of (by omega) (by omega) (.inr rfl) (by omega) (by first | rfl | assumption)
            have fk24 : (instantB 200000) = true := instantB_iff.2 (by omega)
            refine J.callF 49 17 #[.agg #[.int .i64 q2, .int .i64 0, .int .i64 e2, .bool false, .bool f2], .int .i64 200000] hb17 (by kernel_rfl) (ask_any q2 0 e2 false f2 200000 _) ?_
            rintro _ w31 ⟨rfl, T10⟩
            have S37 : Sep w [box b10 [.int .i64 bye] 3, box b9 [.int .i64 q2, .int .i64 0, .int .i64 e2, .bool false, .bool f2] 31, box b8 [.int .i64 bye] 3, box b7 [.int .i64 q1, .int .i64 0, .int .i64 e1, .bool false, .bool f1] 31, box b2 [.int .i64 q2, .int .i64 0, .int .i64 e2, .bool false, .bool f2] 31, box b1 [.int .u8 h0, .int .u8 h1, .int .u8 h2, .int .u8 h3] 46] w31 := S32.trans T10
            clear T10 S32
            refine J.head (.tuple #[.agg #[.int .i64 (nextF q2), .int .i64 200000, .int .i64 e2, .bool true, .bool false], .int .i64 (nextF q2), .int .i64 0]) (by (try simp only [askV, zeroQ, fk23, fk24]) <;> simp [askV, zeroQ, fk23, fk24, fk22]) ?_
            refine J.run 4 K7_64 [(52, .int .i64 0), (51, .int .i64 (nextF q2)), (50, .agg #[.int .i64 (nextF q2), .int .i64 200000, .int .i64 e2, .bool true, .bool false]), (12, .int .u8 h2), (41, .int .i64 2), (10, .int .i64 200000), (40, .agg #[.int .u8 h0, .int .u8 h1, .int .u8 h2, .int .u8 h3]), (9, .pointer (some ⟨b2, 0, none⟩)), (3, .int .u16 bye)] w31 (by kernel_rfl) ?_
            refine J.new S37 13 [.int .i64 0, .int .i64 0, .int .i64 0, .bool false, .bool false] 31 (by kernel_rfl) ?_
            intro b11 w32 S38
            refine J.stBox S38 0 31 0 (.agg #[.int .i64 (nextF q2), .int .i64 200000, .int .i64 e2, .bool true, .bool false]) [.int .i64 (nextF q2), .int .i64 200000, .int .i64 e2, .bool true, .bool false] [box b11 [.int .i64 (nextF q2), .int .i64 200000, .int .i64 e2, .bool true, .bool false] 31, box b10 [.int .i64 bye] 3, box b9 [.int .i64 q2, .int .i64 0, .int .i64 e2, .bool false, .bool f2] 31, box b8 [.int .i64 bye] 3, box b7 [.int .i64 q1, .int .i64 0, .int .i64 e1, .bool false, .bool f1] 31, box b2 [.int .i64 q2, .int .i64 0, .int .i64 e2, .bool false, .bool f2] 31, box b1 [.int .u8 h0, .int .u8 h1, .int .u8 h2, .int .u8 h3] 46] (by kernel_rfl) rfl (by kernel_rfl) (by kernel_rfl) rfl ?_
            intro w33 S39
            refine J.run 7 K7_65 [(54, .int .i64 (IntKind.wrap .i64 bye)), (15, .int .i64 0), (14, .int .i64 (nextF q2)), (13, .pointer (some ⟨b11, 0, none⟩)), (12, .int .u8 h2), (41, .int .i64 2), (10, .int .i64 200000), (40, .agg #[.int .u8 h0, .int .u8 h1, .int .u8 h2, .int .u8 h3]), (9, .pointer (some ⟨b2, 0, none⟩)), (3, .int .u16 bye)] w33 (by kernel_rfl) ?_
            refine J.head (.int .i64 bye) (congrArg (Value.int .i64) (IntWalk.i64_in _ (by omega))) ?_
            refine J.newSlice S39 55 1 [.int .i64 bye] 3 (by kernel_rfl) ?_
            intro b12 w34 S40
            refine J.run 6 K7_66 [(58, .slice (some ⟨b12, 0, none⟩) 1 1), (57, .int .i64 (nextF q2)), (16, .slice (some ⟨b12, 0, none⟩) 1 1), (15, .int .i64 0), (13, .pointer (some ⟨b11, 0, none⟩)), (12, .int .u8 h2), (41, .int .i64 2), (10, .int .i64 200000), (40, .agg #[.int .u8 h0, .int .u8 h1, .int .u8 h2, .int .u8 h3]), (9, .pointer (some ⟨b2, 0, none⟩)), (3, .int .u16 bye)] w34 (by kernel_rfl) ?_
            have fk25 : (questionB (nextF q2)) = true := questionB_iff.2 (by omega)
            refine J.callF 59 10 #[.int .i64 (nextF q2), .slice (some ⟨b12, 0, none⟩) 1 1] hb10 (by kernel_rfl) (answer_any (nextF q2) (some ⟨b12, 0, none⟩) 1 1 ([bye]) _ ((box_ints [bye] (S40.nth 0 rfl) rfl 1 rfl)) (by omega)) ?_
            rintro _ w35 ⟨rfl, T11⟩
            have S41 : Sep w [box b12 [.int .i64 bye] 3, box b11 [.int .i64 (nextF q2), .int .i64 200000, .int .i64 e2, .bool true, .bool false] 31, box b10 [.int .i64 bye] 3, box b9 [.int .i64 q2, .int .i64 0, .int .i64 e2, .bool false, .bool f2] 31, box b8 [.int .i64 bye] 3, box b7 [.int .i64 q1, .int .i64 0, .int .i64 e1, .bool false, .bool f1] 31, box b2 [.int .i64 q2, .int .i64 0, .int .i64 e2, .bool false, .bool f2] 31, box b1 [.int .u8 h0, .int .u8 h1, .int .u8 h2, .int .u8 h3] 46] w35 := S40.trans T11
            clear T11 S40
            refine J.head (.tuple #[.int .i64 (ansF (nextF q2) ([bye])), .int .i64 0]) (by first | (simp only [ansV, fk12, fk25, reduceCtorEq, ↓reduceIte]; done) | simp [ansV, fk12, fk25]) ?_
            have hans3 : 0 ≤ ansF (nextF q2) ([bye]) ∧ ansF (nextF q2) ([bye]) ≤ 65535 := ansF_bounds (by omega) _
            refine J.run 27 K7_67 [(69, .int .u8 (Int.tmod h2 4)), (17, .int .i64 (ansF (nextF q2) ([bye]))), (16, .slice (some ⟨b12, 0, none⟩) 1 1), (13, .pointer (some ⟨b11, 0, none⟩)), (41, .int .i64 2), (10, .int .i64 200000), (40, .agg #[.int .u8 h0, .int .u8 h1, .int .u8 h2, .int .u8 h3]), (9, .pointer (some ⟨b2, 0, none⟩)), (3, .int .u16 bye)] w35 (by kernel_rfl) ?_
            refine J.head (.int .u8 (h2 % 4)) (congrArg (Value.int .u8) (IntWalk.rem_in _ _ (by omega))) ?_
            refine J.run 1 K7_68 [(69, .int .u8 (h2 % 4)), (17, .int .i64 (ansF (nextF q2) ([bye]))), (16, .slice (some ⟨b12, 0, none⟩) 1 1), (13, .pointer (some ⟨b11, 0, none⟩)), (41, .int .i64 2), (10, .int .i64 200000), (40, .agg #[.int .u8 h0, .int .u8 h1, .int .u8 h2, .int .u8 h3]), (9, .pointer (some ⟨b2, 0, none⟩)), (3, .int .u16 bye)] w35 (by kernel_rfl) ?_
            have hend3 := endF (e := e2) (by omega)
            have hnx3 := nextF_bounds (n := q2) (by omega)
            have X4 : ∀ (q3 : Int) (e3 : Int) (f3 : Bool) (w36 : World), (1 ≤ q3 ∧ q3 ≤ 65535) → (e3 = min 7 (e2 + 2)) → (f3 = (e3 == 7)) → Sep w [box b12 [.int .i64 bye] 3, box b11 [.int .i64 q3, .int .i64 0, .int .i64 e3, .bool false, .bool f3] 31, box b10 [.int .i64 bye] 3, box b9 [.int .i64 q2, .int .i64 0, .int .i64 e2, .bool false, .bool f2] 31, box b8 [.int .i64 bye] 3, box b7 [.int .i64 q1, .int .i64 0, .int .i64 e1, .bool false, .bool f1] 31, box b2 [.int .i64 q2, .int .i64 0, .int .i64 e2, .bool false, .bool f2] 31, box b1 [.int .u8 h0, .int .u8 h1, .int .u8 h2, .int .u8 h3] 46] w36 → J Try.prog 7 187 R K7_69 [(13, .pointer (some ⟨b11, 0, none⟩)), (41, .int .i64 2), (10, .int .i64 200000), (40, .agg #[.int .u8 h0, .int .u8 h1, .int .u8 h2, .int .u8 h3]), (9, .pointer (some ⟨b2, 0, none⟩)), (3, .int .u16 bye), (19, .int .i64 0)] w36 := by
              intro q3 e3 f3 w36 hq3 he3 hf3 S42
              refine J.run 7 K7_70 [(128, .pointer (some ⟨b11, 3, none⟩)), (127, .bool false), (13, .pointer (some ⟨b11, 0, none⟩)), (41, .int .i64 2), (10, .int .i64 200000), (40, .agg #[.int .u8 h0, .int .u8 h1, .int .u8 h2, .int .u8 h3]), (9, .pointer (some ⟨b2, 0, none⟩)), (3, .int .u16 bye)] w36 (by kernel_rfl) ?_
              refine J.ok (OK.ldBox S42 1 129 4 3 (.bool false) (by kernel_rfl) rfl (by kernel_rfl)) ?_
              refine J.run 3 K7_71 [(132, .pointer (some ⟨b11, 2, none⟩)), (131, .bool false), (13, .pointer (some ⟨b11, 0, none⟩)), (41, .int .i64 2), (10, .int .i64 200000), (40, .agg #[.int .u8 h0, .int .u8 h1, .int .u8 h2, .int .u8 h3]), (9, .pointer (some ⟨b2, 0, none⟩)), (3, .int .u16 bye)] w36 (by kernel_rfl) ?_
              refine J.ok (OK.ldBox S42 1 133 3 2 (.int .i64 e3) (by kernel_rfl) rfl (by kernel_rfl)) ?_
              refine J.run 1 K7_72 [(134, .pointer (some ⟨b2, 2, none⟩)), (133, .int .i64 e3), (131, .bool false), (13, .pointer (some ⟨b11, 0, none⟩)), (41, .int .i64 2), (10, .int .i64 200000), (40, .agg #[.int .u8 h0, .int .u8 h1, .int .u8 h2, .int .u8 h3]), (9, .pointer (some ⟨b2, 0, none⟩)), (3, .int .u16 bye)] w36 (by kernel_rfl) ?_
              refine J.ok (OK.ldBox S42 6 135 3 2 (.int .i64 e2) (by kernel_rfl) rfl (by kernel_rfl)) ?_
              refine J.run 1 K7_73 [(136, .int .i64 (IntKind.wrap .i64 (e2 + 2))), (133, .int .i64 e3), (131, .bool false), (13, .pointer (some ⟨b11, 0, none⟩)), (41, .int .i64 2), (10, .int .i64 200000), (40, .agg #[.int .u8 h0, .int .u8 h1, .int .u8 h2, .int .u8 h3]), (9, .pointer (some ⟨b2, 0, none⟩)), (3, .int .u16 bye)] w36 (by kernel_rfl) ?_
              refine J.head (.int .i64 (e2 + 2)) (congrArg (Value.int .i64) (IntWalk.i64_in _ (by omega))) ?_
              refine J.run 1 K7_74 [(137, .int .i64 (if (e2 + 2) < 7 then (e2 + 2) else 7)), (133, .int .i64 e3), (131, .bool false), (13, .pointer (some ⟨b11, 0, none⟩)), (41, .int .i64 2), (10, .int .i64 200000), (40, .agg #[.int .u8 h0, .int .u8 h1, .int .u8 h2, .int .u8 h3]), (9, .pointer (some ⟨b2, 0, none⟩)), (3, .int .u16 bye)] w36 (by kernel_rfl) ?_
              refine J.head (.int .i64 (min 7 (e2 + 2))) (congrArg (Value.int .i64) (by omega)) ?_
              refine J.run 3 K7_75 [(139, .bool (e3 != (min 7 (e2 + 2)))), (13, .pointer (some ⟨b11, 0, none⟩)), (41, .int .i64 2), (10, .int .i64 200000), (40, .agg #[.int .u8 h0, .int .u8 h1, .int .u8 h2, .int .u8 h3]), (9, .pointer (some ⟨b2, 0, none⟩)), (3, .int .u16 bye)] w36 (by kernel_rfl) ?_
              have fk27 : e3 = (min 7 (e2 + 2)) := by omega
              refine J.head (.bool false) (congrArg Value.bool (bne_eq_false_iff_eq.2 fk27)) ?_
              refine J.run 4 K7_76 [(13, .pointer (some ⟨b11, 0, none⟩)), (41, .int .i64 2), (10, .int .i64 200000), (40, .agg #[.int .u8 h0, .int .u8 h1, .int .u8 h2, .int .u8 h3]), (9, .pointer (some ⟨b2, 0, none⟩)), (3, .int .u16 bye)] w36 (by kernel_rfl) ?_
              refine J.ok (OK.ldBox S42 1 140 31 0 (.agg #[.int .i64 q3, .int .i64 0, .int .i64 e3, .bool false, .bool f3]) (by kernel_rfl) rfl (by kernel_rfl)) ?_
              refine J.stBox S42 6 31 0 (.agg #[.int .i64 q3, .int .i64 0, .int .i64 e3, .bool false, .bool f3]) [.int .i64 q3, .int .i64 0, .int .i64 e3, .bool false, .bool f3] [box b12 [.int .i64 bye] 3, box b11 [.int .i64 q3, .int .i64 0, .int .i64 e3, .bool false, .bool f3] 31, box b10 [.int .i64 bye] 3, box b9 [.int .i64 q2, .int .i64 0, .int .i64 e2, .bool false, .bool f2] 31, box b8 [.int .i64 bye] 3, box b7 [.int .i64 q1, .int .i64 0, .int .i64 e1, .bool false, .bool f1] 31, box b2 [.int .i64 q3, .int .i64 0, .int .i64 e3, .bool false, .bool f3] 31, box b1 [.int .u8 h0, .int .u8 h1, .int .u8 h2, .int .u8 h3] 46] (by kernel_rfl) rfl (by kernel_rfl) (by kernel_rfl) rfl ?_
              intro w37 S43
              refine J.run 30 K7_77 [(44, .pointer (some ⟨b2, 4, none⟩)), (12, .int .u8 h3), (41, .int .i64 3), (10, .int .i64 300000), (40, .agg #[.int .u8 h0, .int .u8 h1, .int .u8 h2, .int .u8 h3]), (9, .pointer (some ⟨b2, 0, none⟩)), (3, .int .u16 bye)] w37 (by kernel_rfl) ?_
              refine J.ok (OK.ldBox S43 6 45 4 4 (.bool f3) (by kernel_rfl) rfl (by kernel_rfl)) ?_
              refine J.run 1 K7_78 [(45, .bool f3), (12, .int .u8 h3), (41, .int .i64 3), (10, .int .i64 300000), (40, .agg #[.int .u8 h0, .int .u8 h1, .int .u8 h2, .int .u8 h3]), (9, .pointer (some ⟨b2, 0, none⟩)), (3, .int .u16 bye)] w37 (by kernel_rfl) ?_
              rcases Bool.eq_false_or_eq_true f3 with fk28 | fk28
              · skip
                refine J.head (.bool true) (congrArg Value.bool fk28) ?_
                have fb5 : e3 = 7 := by have h_ := fk28; rw [hf3] at h_; simpa using h_
                refine J.run 2 K7_11 [(9, .pointer (some ⟨b2, 0, none⟩)), (10, .int .i64 300000)] w37 (by kernel_rfl) ?_
                have S44 : Sep w [box b12 [.int .i64 bye] 3, box b11 [.int .i64 q3, .int .i64 0, .int .i64 e3, .bool false, .bool f3] 31, box b10 [.int .i64 bye] 3, box b9 [.int .i64 q2, .int .i64 0, .int .i64 e2, .bool false, .bool f2] 31, box b8 [.int .i64 bye] 3, box b2 [.int .i64 q3, .int .i64 0, .int .i64 e3, .bool false, .bool f3] 31, box b1 [.int .u8 h0, .int .u8 h1, .int .u8 h2, .int .u8 h3] 46] w37 := S43.erase 5
                clear S43
                have S45 : Sep w [box b12 [.int .i64 bye] 3, box b11 [.int .i64 q3, .int .i64 0, .int .i64 e3, .bool false, .bool f3] 31, box b10 [.int .i64 bye] 3, box b9 [.int .i64 q2, .int .i64 0, .int .i64 e2, .bool false, .bool f2] 31, box b2 [.int .i64 q3, .int .i64 0, .int .i64 e3, .bool false, .bool f3] 31, box b1 [.int .u8 h0, .int .u8 h1, .int .u8 h2, .int .u8 h3] 46] w37 := S44.erase 4
                clear S44
                have S46 : Sep w [box b12 [.int .i64 bye] 3, box b11 [.int .i64 q3, .int .i64 0, .int .i64 e3, .bool false, .bool f3] 31, box b10 [.int .i64 bye] 3, box b2 [.int .i64 q3, .int .i64 0, .int .i64 e3, .bool false, .bool f3] 31, box b1 [.int .u8 h0, .int .u8 h1, .int .u8 h2, .int .u8 h3] 46] w37 := S45.erase 3
                clear S45
                have S47 : Sep w [box b12 [.int .i64 bye] 3, box b11 [.int .i64 q3, .int .i64 0, .int .i64 e3, .bool false, .bool f3] 31, box b2 [.int .i64 q3, .int .i64 0, .int .i64 e3, .bool false, .bool f3] 31, box b1 [.int .u8 h0, .int .u8 h1, .int .u8 h2, .int .u8 h3] 46] w37 := S46.erase 2
                clear S46
                have S48 : Sep w [box b12 [.int .i64 bye] 3, box b2 [.int .i64 q3, .int .i64 0, .int .i64 e3, .bool false, .bool f3] 31, box b1 [.int .u8 h0, .int .u8 h1, .int .u8 h2, .int .u8 h3] 46] w37 := S47.erase 1
                clear S47
                have S49 : Sep w [box b2 [.int .i64 q3, .int .i64 0, .int .i64 e3, .bool false, .bool f3] 31, box b1 [.int .u8 h0, .int .u8 h1, .int .u8 h2, .int .u8 h3] 46] w37 := S48.erase 0
                clear S48
                exact X1 q3 e3 f3 300000 w37 (by omega) (by omega) (by first | assumption | (simp [*]; omega)) (by omega) S49
              · skip
                refine J.head (.bool false) (congrArg Value.bool fk28) ?_
                have fb6 : e3 ≠ 7 := by have h_ := fk28; rw [hf3] at h_; simpa using h_
                refine J.run 4 K7_79 [(12, .int .u8 h3), (41, .int .i64 3), (10, .int .i64 300000), (40, .agg #[.int .u8 h0, .int .u8 h1, .int .u8 h2, .int .u8 h3]), (9, .pointer (some ⟨b2, 0, none⟩)), (3, .int .u16 bye)] w37 (by kernel_rfl) ?_
                refine J.ok (OK.ldBox S43 6 47 31 0 (.agg #[.int .i64 q3, .int .i64 0, .int .i64 e3, .bool false, .bool f3]) (by kernel_rfl) rfl (by kernel_rfl)) ?_
                refine J.run 1 K7_80 [(48, .int .i64 300000), (47, .agg #[.int .i64 q3, .int .i64 0, .int .i64 e3, .bool false, .bool f3]), (12, .int .u8 h3), (41, .int .i64 3), (10, .int .i64 300000), (40, .agg #[.int .u8 h0, .int .u8 h1, .int .u8 h2, .int .u8 h3]), (9, .pointer (some ⟨b2, 0, none⟩)), (3, .int .u16 bye)] w37 (by kernel_rfl) ?_
                have hnq4 := nextF_bounds (n := q3) (by omega)
                have fk29 : (validB q3 0 e3 false f3) = true := valid_of (by omega) (by omega) (.inr rfl) (by omega) (by first | rfl | assumption)
                have fk30 : (instantB 300000) = true := instantB_iff.2 (by omega)
                refine J.callF 49 17 #[.agg #[.int .i64 q3, .int .i64 0, .int .i64 e3, .bool false, .bool f3], .int .i64 300000] hb17 (by kernel_rfl) (ask_any q3 0 e3 false f3 300000 _) ?_
                rintro _ w38 ⟨rfl, T12⟩
                have S50 : Sep w [box b12 [.int .i64 bye] 3, box b11 [.int .i64 q3, .int .i64 0, .int .i64 e3, .bool false, .bool f3] 31, box b10 [.int .i64 bye] 3, box b9 [.int .i64 q2, .int .i64 0, .int .i64 e2, .bool false, .bool f2] 31, box b8 [.int .i64 bye] 3, box b7 [.int .i64 q1, .int .i64 0, .int .i64 e1, .bool false, .bool f1] 31, box b2 [.int .i64 q3, .int .i64 0, .int .i64 e3, .bool false, .bool f3] 31, box b1 [.int .u8 h0, .int .u8 h1, .int .u8 h2, .int .u8 h3] 46] w38 := S43.trans T12
                clear T12 S43
                refine J.head (.tuple #[.agg #[.int .i64 (nextF q3), .int .i64 300000, .int .i64 e3, .bool true, .bool false], .int .i64 (nextF q3), .int .i64 0]) (by (try simp only [askV, zeroQ, fk29, fk30]) <;> simp [askV, zeroQ, fk29, fk30, fk28]) ?_
                refine J.run 4 K7_81 [(52, .int .i64 0), (51, .int .i64 (nextF q3)), (50, .agg #[.int .i64 (nextF q3), .int .i64 300000, .int .i64 e3, .bool true, .bool false]), (12, .int .u8 h3), (41, .int .i64 3), (10, .int .i64 300000), (40, .agg #[.int .u8 h0, .int .u8 h1, .int .u8 h2, .int .u8 h3]), (9, .pointer (some ⟨b2, 0, none⟩)), (3, .int .u16 bye)] w38 (by kernel_rfl) ?_
                refine J.new S50 13 [.int .i64 0, .int .i64 0, .int .i64 0, .bool false, .bool false] 31 (by kernel_rfl) ?_
                intro b13 w39 S51
                refine J.stBox S51 0 31 0 (.agg #[.int .i64 (nextF q3), .int .i64 300000, .int .i64 e3, .bool true, .bool false]) [.int .i64 (nextF q3), .int .i64 300000, .int .i64 e3, .bool true, .bool false] [box b13 [.int .i64 (nextF q3), .int .i64 300000, .int .i64 e3, .bool true, .bool false] 31, box b12 [.int .i64 bye] 3, box b11 [.int .i64 q3, .int .i64 0, .int .i64 e3, .bool false, .bool f3] 31, box b10 [.int .i64 bye] 3, box b9 [.int .i64 q2, .int .i64 0, .int .i64 e2, .bool false, .bool f2] 31, box b8 [.int .i64 bye] 3, box b7 [.int .i64 q1, .int .i64 0, .int .i64 e1, .bool false, .bool f1] 31, box b2 [.int .i64 q3, .int .i64 0, .int .i64 e3, .bool false, .bool f3] 31, box b1 [.int .u8 h0, .int .u8 h1, .int .u8 h2, .int .u8 h3] 46] (by kernel_rfl) rfl (by kernel_rfl) (by kernel_rfl) rfl ?_
                intro w40 S52
                refine J.run 7 K7_82 [(54, .int .i64 (IntKind.wrap .i64 bye)), (15, .int .i64 0), (14, .int .i64 (nextF q3)), (13, .pointer (some ⟨b13, 0, none⟩)), (12, .int .u8 h3), (41, .int .i64 3), (10, .int .i64 300000), (40, .agg #[.int .u8 h0, .int .u8 h1, .int .u8 h2, .int .u8 h3]), (9, .pointer (some ⟨b2, 0, none⟩)), (3, .int .u16 bye)] w40 (by kernel_rfl) ?_
                refine J.head (.int .i64 bye) (congrArg (Value.int .i64) (IntWalk.i64_in _ (by omega))) ?_
                refine J.newSlice S52 55 1 [.int .i64 bye] 3 (by kernel_rfl) ?_
                intro b14 w41 S53
                refine J.run 6 K7_83 [(58, .slice (some ⟨b14, 0, none⟩) 1 1), (57, .int .i64 (nextF q3)), (16, .slice (some ⟨b14, 0, none⟩) 1 1), (15, .int .i64 0), (13, .pointer (some ⟨b13, 0, none⟩)), (12, .int .u8 h3), (41, .int .i64 3), (10, .int .i64 300000), (40, .agg #[.int .u8 h0, .int .u8 h1, .int .u8 h2, .int .u8 h3]), (9, .pointer (some ⟨b2, 0, none⟩)), (3, .int .u16 bye)] w41 (by kernel_rfl) ?_
                have fk31 : (questionB (nextF q3)) = true := questionB_iff.2 (by omega)
                refine J.callF 59 10 #[.int .i64 (nextF q3), .slice (some ⟨b14, 0, none⟩) 1 1] hb10 (by kernel_rfl) (answer_any (nextF q3) (some ⟨b14, 0, none⟩) 1 1 ([bye]) _ ((box_ints [bye] (S53.nth 0 rfl) rfl 1 rfl)) (by omega)) ?_
                rintro _ w42 ⟨rfl, T13⟩
                have S54 : Sep w [box b14 [.int .i64 bye] 3, box b13 [.int .i64 (nextF q3), .int .i64 300000, .int .i64 e3, .bool true, .bool false] 31, box b12 [.int .i64 bye] 3, box b11 [.int .i64 q3, .int .i64 0, .int .i64 e3, .bool false, .bool f3] 31, box b10 [.int .i64 bye] 3, box b9 [.int .i64 q2, .int .i64 0, .int .i64 e2, .bool false, .bool f2] 31, box b8 [.int .i64 bye] 3, box b7 [.int .i64 q1, .int .i64 0, .int .i64 e1, .bool false, .bool f1] 31, box b2 [.int .i64 q3, .int .i64 0, .int .i64 e3, .bool false, .bool f3] 31, box b1 [.int .u8 h0, .int .u8 h1, .int .u8 h2, .int .u8 h3] 46] w42 := S53.trans T13
                clear T13 S53
                refine J.head (.tuple #[.int .i64 (ansF (nextF q3) ([bye])), .int .i64 0]) (by first | (simp only [ansV, fk12, fk31, reduceCtorEq, ↓reduceIte]; done) | simp [ansV, fk12, fk31]) ?_
                have hans4 : 0 ≤ ansF (nextF q3) ([bye]) ∧ ansF (nextF q3) ([bye]) ≤ 65535 := ansF_bounds (by omega) _
                refine J.run 27 K7_84 [(69, .int .u8 (Int.tmod h3 4)), (17, .int .i64 (ansF (nextF q3) ([bye]))), (16, .slice (some ⟨b14, 0, none⟩) 1 1), (13, .pointer (some ⟨b13, 0, none⟩)), (41, .int .i64 3), (10, .int .i64 300000), (40, .agg #[.int .u8 h0, .int .u8 h1, .int .u8 h2, .int .u8 h3]), (9, .pointer (some ⟨b2, 0, none⟩)), (3, .int .u16 bye)] w42 (by kernel_rfl) ?_
                refine J.head (.int .u8 (h3 % 4)) (congrArg (Value.int .u8) (IntWalk.rem_in _ _ (by omega))) ?_
                refine J.run 1 K7_85 [(69, .int .u8 (h3 % 4)), (17, .int .i64 (ansF (nextF q3) ([bye]))), (16, .slice (some ⟨b14, 0, none⟩) 1 1), (13, .pointer (some ⟨b13, 0, none⟩)), (41, .int .i64 3), (10, .int .i64 300000), (40, .agg #[.int .u8 h0, .int .u8 h1, .int .u8 h2, .int .u8 h3]), (9, .pointer (some ⟨b2, 0, none⟩)), (3, .int .u16 bye)] w42 (by kernel_rfl) ?_
                have hend4 := endF (e := e3) (by omega)
                have hnx4 := nextF_bounds (n := q3) (by omega)
                have X5 : ∀ (q4 : Int) (e4 : Int) (f4 : Bool) (w43 : World), (1 ≤ q4 ∧ q4 ≤ 65535) → (e4 = min 7 (e3 + 2)) → (f4 = (e4 == 7)) → Sep w [box b14 [.int .i64 bye] 3, box b13 [.int .i64 q4, .int .i64 0, .int .i64 e4, .bool false, .bool f4] 31, box b12 [.int .i64 bye] 3, box b11 [.int .i64 q3, .int .i64 0, .int .i64 e3, .bool false, .bool f3] 31, box b10 [.int .i64 bye] 3, box b9 [.int .i64 q2, .int .i64 0, .int .i64 e2, .bool false, .bool f2] 31, box b8 [.int .i64 bye] 3, box b7 [.int .i64 q1, .int .i64 0, .int .i64 e1, .bool false, .bool f1] 31, box b2 [.int .i64 q3, .int .i64 0, .int .i64 e3, .bool false, .bool f3] 31, box b1 [.int .u8 h0, .int .u8 h1, .int .u8 h2, .int .u8 h3] 46] w43 → J Try.prog 7 187 R K7_86 [(13, .pointer (some ⟨b13, 0, none⟩)), (41, .int .i64 3), (10, .int .i64 300000), (40, .agg #[.int .u8 h0, .int .u8 h1, .int .u8 h2, .int .u8 h3]), (9, .pointer (some ⟨b2, 0, none⟩)), (3, .int .u16 bye), (19, .int .i64 0)] w43 := by
                  intro q4 e4 f4 w43 hq4 he4 hf4 S55
                  refine J.run 7 K7_87 [(128, .pointer (some ⟨b13, 3, none⟩)), (127, .bool false), (13, .pointer (some ⟨b13, 0, none⟩)), (41, .int .i64 3), (10, .int .i64 300000), (40, .agg #[.int .u8 h0, .int .u8 h1, .int .u8 h2, .int .u8 h3]), (9, .pointer (some ⟨b2, 0, none⟩)), (3, .int .u16 bye)] w43 (by kernel_rfl) ?_
                  refine J.ok (OK.ldBox S55 1 129 4 3 (.bool false) (by kernel_rfl) rfl (by kernel_rfl)) ?_
                  refine J.run 3 K7_88 [(132, .pointer (some ⟨b13, 2, none⟩)), (131, .bool false), (13, .pointer (some ⟨b13, 0, none⟩)), (41, .int .i64 3), (10, .int .i64 300000), (40, .agg #[.int .u8 h0, .int .u8 h1, .int .u8 h2, .int .u8 h3]), (9, .pointer (some ⟨b2, 0, none⟩)), (3, .int .u16 bye)] w43 (by kernel_rfl) ?_
                  refine J.ok (OK.ldBox S55 1 133 3 2 (.int .i64 e4) (by kernel_rfl) rfl (by kernel_rfl)) ?_
                  refine J.run 1 K7_89 [(134, .pointer (some ⟨b2, 2, none⟩)), (133, .int .i64 e4), (131, .bool false), (13, .pointer (some ⟨b13, 0, none⟩)), (41, .int .i64 3), (10, .int .i64 300000), (40, .agg #[.int .u8 h0, .int .u8 h1, .int .u8 h2, .int .u8 h3]), (9, .pointer (some ⟨b2, 0, none⟩)), (3, .int .u16 bye)] w43 (by kernel_rfl) ?_
                  refine J.ok (OK.ldBox S55 8 135 3 2 (.int .i64 e3) (by kernel_rfl) rfl (by kernel_rfl)) ?_
                  refine J.run 1 K7_90 [(136, .int .i64 (IntKind.wrap .i64 (e3 + 2))), (133, .int .i64 e4), (131, .bool false), (13, .pointer (some ⟨b13, 0, none⟩)), (41, .int .i64 3), (10, .int .i64 300000), (40, .agg #[.int .u8 h0, .int .u8 h1, .int .u8 h2, .int .u8 h3]), (9, .pointer (some ⟨b2, 0, none⟩)), (3, .int .u16 bye)] w43 (by kernel_rfl) ?_
                  refine J.head (.int .i64 (e3 + 2)) (congrArg (Value.int .i64) (IntWalk.i64_in _ (by omega))) ?_
                  refine J.run 1 K7_91 [(137, .int .i64 (if (e3 + 2) < 7 then (e3 + 2) else 7)), (133, .int .i64 e4), (131, .bool false), (13, .pointer (some ⟨b13, 0, none⟩)), (41, .int .i64 3), (10, .int .i64 300000), (40, .agg #[.int .u8 h0, .int .u8 h1, .int .u8 h2, .int .u8 h3]), (9, .pointer (some ⟨b2, 0, none⟩)), (3, .int .u16 bye)] w43 (by kernel_rfl) ?_
                  refine J.head (.int .i64 (min 7 (e3 + 2))) (congrArg (Value.int .i64) (by omega)) ?_
                  refine J.run 3 K7_92 [(139, .bool (e4 != (min 7 (e3 + 2)))), (13, .pointer (some ⟨b13, 0, none⟩)), (41, .int .i64 3), (10, .int .i64 300000), (40, .agg #[.int .u8 h0, .int .u8 h1, .int .u8 h2, .int .u8 h3]), (9, .pointer (some ⟨b2, 0, none⟩)), (3, .int .u16 bye)] w43 (by kernel_rfl) ?_
                  have fk33 : e4 = (min 7 (e3 + 2)) := by omega
                  refine J.head (.bool false) (congrArg Value.bool (bne_eq_false_iff_eq.2 fk33)) ?_
                  refine J.run 4 K7_93 [(13, .pointer (some ⟨b13, 0, none⟩)), (41, .int .i64 3), (10, .int .i64 300000), (40, .agg #[.int .u8 h0, .int .u8 h1, .int .u8 h2, .int .u8 h3]), (9, .pointer (some ⟨b2, 0, none⟩)), (3, .int .u16 bye)] w43 (by kernel_rfl) ?_
                  refine J.ok (OK.ldBox S55 1 140 31 0 (.agg #[.int .i64 q4, .int .i64 0, .int .i64 e4, .bool false, .bool f4]) (by kernel_rfl) rfl (by kernel_rfl)) ?_
                  refine J.stBox S55 8 31 0 (.agg #[.int .i64 q4, .int .i64 0, .int .i64 e4, .bool false, .bool f4]) [.int .i64 q4, .int .i64 0, .int .i64 e4, .bool false, .bool f4] [box b14 [.int .i64 bye] 3, box b13 [.int .i64 q4, .int .i64 0, .int .i64 e4, .bool false, .bool f4] 31, box b12 [.int .i64 bye] 3, box b11 [.int .i64 q3, .int .i64 0, .int .i64 e3, .bool false, .bool f3] 31, box b10 [.int .i64 bye] 3, box b9 [.int .i64 q2, .int .i64 0, .int .i64 e2, .bool false, .bool f2] 31, box b8 [.int .i64 bye] 3, box b7 [.int .i64 q1, .int .i64 0, .int .i64 e1, .bool false, .bool f1] 31, box b2 [.int .i64 q4, .int .i64 0, .int .i64 e4, .bool false, .bool f4] 31, box b1 [.int .u8 h0, .int .u8 h1, .int .u8 h2, .int .u8 h3] 46] (by kernel_rfl) rfl (by kernel_rfl) (by kernel_rfl) rfl ?_
                  intro w44 S56
                  refine J.run 19 K7_11 [(9, .pointer (some ⟨b2, 0, none⟩)), (10, .int .i64 400000)] w44 (by kernel_rfl) ?_
                  have S57 : Sep w [box b14 [.int .i64 bye] 3, box b13 [.int .i64 q4, .int .i64 0, .int .i64 e4, .bool false, .bool f4] 31, box b12 [.int .i64 bye] 3, box b11 [.int .i64 q3, .int .i64 0, .int .i64 e3, .bool false, .bool f3] 31, box b10 [.int .i64 bye] 3, box b9 [.int .i64 q2, .int .i64 0, .int .i64 e2, .bool false, .bool f2] 31, box b8 [.int .i64 bye] 3, box b2 [.int .i64 q4, .int .i64 0, .int .i64 e4, .bool false, .bool f4] 31, box b1 [.int .u8 h0, .int .u8 h1, .int .u8 h2, .int .u8 h3] 46] w44 := S56.erase 7
                  clear S56
                  have S58 : Sep w [box b14 [.int .i64 bye] 3, box b13 [.int .i64 q4, .int .i64 0, .int .i64 e4, .bool false, .bool f4] 31, box b12 [.int .i64 bye] 3, box b11 [.int .i64 q3, .int .i64 0, .int .i64 e3, .bool false, .bool f3] 31, box b10 [.int .i64 bye] 3, box b9 [.int .i64 q2, .int .i64 0, .int .i64 e2, .bool false, .bool f2] 31, box b2 [.int .i64 q4, .int .i64 0, .int .i64 e4, .bool false, .bool f4] 31, box b1 [.int .u8 h0, .int .u8 h1, .int .u8 h2, .int .u8 h3] 46] w44 := S57.erase 6
                  clear S57
                  have S59 : Sep w [box b14 [.int .i64 bye] 3, box b13 [.int .i64 q4, .int .i64 0, .int .i64 e4, .bool false, .bool f4] 31, box b12 [.int .i64 bye] 3, box b11 [.int .i64 q3, .int .i64 0, .int .i64 e3, .bool false, .bool f3] 31, box b10 [.int .i64 bye] 3, box b2 [.int .i64 q4, .int .i64 0, .int .i64 e4, .bool false, .bool f4] 31, box b1 [.int .u8 h0, .int .u8 h1, .int .u8 h2, .int .u8 h3] 46] w44 := S58.erase 5
                  clear S58
                  have S60 : Sep w [box b14 [.int .i64 bye] 3, box b13 [.int .i64 q4, .int .i64 0, .int .i64 e4, .bool false, .bool f4] 31, box b12 [.int .i64 bye] 3, box b11 [.int .i64 q3, .int .i64 0, .int .i64 e3, .bool false, .bool f3] 31, box b2 [.int .i64 q4, .int .i64 0, .int .i64 e4, .bool false, .bool f4] 31, box b1 [.int .u8 h0, .int .u8 h1, .int .u8 h2, .int .u8 h3] 46] w44 := S59.erase 4
                  clear S59
                  have S61 : Sep w [box b14 [.int .i64 bye] 3, box b13 [.int .i64 q4, .int .i64 0, .int .i64 e4, .bool false, .bool f4] 31, box b12 [.int .i64 bye] 3, box b2 [.int .i64 q4, .int .i64 0, .int .i64 e4, .bool false, .bool f4] 31, box b1 [.int .u8 h0, .int .u8 h1, .int .u8 h2, .int .u8 h3] 46] w44 := S60.erase 3
                  clear S60
                  have S62 : Sep w [box b14 [.int .i64 bye] 3, box b13 [.int .i64 q4, .int .i64 0, .int .i64 e4, .bool false, .bool f4] 31, box b2 [.int .i64 q4, .int .i64 0, .int .i64 e4, .bool false, .bool f4] 31, box b1 [.int .u8 h0, .int .u8 h1, .int .u8 h2, .int .u8 h3] 46] w44 := S61.erase 2
                  clear S61
                  have S63 : Sep w [box b14 [.int .i64 bye] 3, box b2 [.int .i64 q4, .int .i64 0, .int .i64 e4, .bool false, .bool f4] 31, box b1 [.int .u8 h0, .int .u8 h1, .int .u8 h2, .int .u8 h3] 46] w44 := S62.erase 1
                  clear S62
                  have S64 : Sep w [box b2 [.int .i64 q4, .int .i64 0, .int .i64 e4, .bool false, .bool f4] 31, box b1 [.int .u8 h0, .int .u8 h1, .int .u8 h2, .int .u8 h3] 46] w44 := S63.erase 0
                  clear S63
                  exact X1 q4 e4 f4 400000 w44 (by omega) (by omega) (by first | assumption | (simp [*]; omega)) (by omega) S64
                refine J.run 6 K7_94 [(80, .bool ((h3 % 4) == 0)), (69, .int .u8 (h3 % 4)), (17, .int .i64 (ansF (nextF q3) ([bye]))), (16, .slice (some ⟨b14, 0, none⟩) 1 1), (13, .pointer (some ⟨b13, 0, none⟩)), (41, .int .i64 3), (10, .int .i64 300000), (40, .agg #[.int .u8 h0, .int .u8 h1, .int .u8 h2, .int .u8 h3]), (9, .pointer (some ⟨b2, 0, none⟩)), (3, .int .u16 bye)] w42 (by kernel_rfl) ?_
                by_cases fk34 : (h3 % 4) = 0
                · skip
                  refine J.head (.bool true) (congrArg Value.bool (beq_iff_eq.2 fk34)) ?_
                  refine J.run 2 K7_95 [(17, .int .i64 (ansF (nextF q3) ([bye]))), (16, .slice (some ⟨b14, 0, none⟩) 1 1), (13, .pointer (some ⟨b13, 0, none⟩)), (41, .int .i64 3), (10, .int .i64 300000), (40, .agg #[.int .u8 h0, .int .u8 h1, .int .u8 h2, .int .u8 h3]), (9, .pointer (some ⟨b2, 0, none⟩)), (3, .int .u16 bye)] w42 (by kernel_rfl) ?_
                  refine J.ok (OK.ldBox S54 1 83 31 0 (.agg #[.int .i64 (nextF q3), .int .i64 300000, .int .i64 e3, .bool true, .bool false]) (by kernel_rfl) rfl (by kernel_rfl)) ?_
                  refine J.run 4 K7_96 [(87, .int .i64 (IntKind.wrap .i64 ((ansF (nextF q3) ([bye])) + 1))), (85, .int .i64 315000), (83, .agg #[.int .i64 (nextF q3), .int .i64 300000, .int .i64 e3, .bool true, .bool false]), (16, .slice (some ⟨b14, 0, none⟩) 1 1), (13, .pointer (some ⟨b13, 0, none⟩)), (41, .int .i64 3), (10, .int .i64 300000), (40, .agg #[.int .u8 h0, .int .u8 h1, .int .u8 h2, .int .u8 h3]), (9, .pointer (some ⟨b2, 0, none⟩)), (3, .int .u16 bye)] w42 (by kernel_rfl) ?_
                  refine J.head (.int .i64 ((ansF (nextF q3) ([bye])) + 1)) (congrArg (Value.int .i64) (IntWalk.i64_in _ (by omega))) ?_
                  refine J.run 2 K7_97 [(89, .int .i64 (IntKind.wrap .i64 bye)), (87, .int .i64 ((ansF (nextF q3) ([bye])) + 1)), (85, .int .i64 315000), (83, .agg #[.int .i64 (nextF q3), .int .i64 300000, .int .i64 e3, .bool true, .bool false]), (16, .slice (some ⟨b14, 0, none⟩) 1 1), (13, .pointer (some ⟨b13, 0, none⟩)), (41, .int .i64 3), (10, .int .i64 300000), (40, .agg #[.int .u8 h0, .int .u8 h1, .int .u8 h2, .int .u8 h3]), (9, .pointer (some ⟨b2, 0, none⟩)), (3, .int .u16 bye)] w42 (by kernel_rfl) ?_
                  refine J.head (.int .i64 bye) (congrArg (Value.int .i64) (IntWalk.i64_in _ (by omega))) ?_
                  refine J.run 1 K7_98 [(90, .int .i64 (Int.tmod bye 65535)), (87, .int .i64 ((ansF (nextF q3) ([bye])) + 1)), (85, .int .i64 315000), (83, .agg #[.int .i64 (nextF q3), .int .i64 300000, .int .i64 e3, .bool true, .bool false]), (16, .slice (some ⟨b14, 0, none⟩) 1 1), (13, .pointer (some ⟨b13, 0, none⟩)), (41, .int .i64 3), (10, .int .i64 300000), (40, .agg #[.int .u8 h0, .int .u8 h1, .int .u8 h2, .int .u8 h3]), (9, .pointer (some ⟨b2, 0, none⟩)), (3, .int .u16 bye)] w42 (by kernel_rfl) ?_
                  refine J.head (.int .i64 (bye % 65535)) (congrArg (Value.int .i64) (IntWalk.rem_in _ _ (by omega))) ?_
                  refine J.run 1 K7_99 [(91, .int .i64 (IntKind.wrap .i64 (((ansF (nextF q3) ([bye])) + 1) + (bye % 65535)))), (85, .int .i64 315000), (83, .agg #[.int .i64 (nextF q3), .int .i64 300000, .int .i64 e3, .bool true, .bool false]), (16, .slice (some ⟨b14, 0, none⟩) 1 1), (13, .pointer (some ⟨b13, 0, none⟩)), (41, .int .i64 3), (10, .int .i64 300000), (40, .agg #[.int .u8 h0, .int .u8 h1, .int .u8 h2, .int .u8 h3]), (9, .pointer (some ⟨b2, 0, none⟩)), (3, .int .u16 bye)] w42 (by kernel_rfl) ?_
                  refine J.head (.int .i64 (((ansF (nextF q3) ([bye])) + 1) + (bye % 65535))) (congrArg (Value.int .i64) (IntWalk.i64_in _ (by omega))) ?_
                  refine J.run 1 K7_100 [(92, .int .i64 (Int.tmod (((ansF (nextF q3) ([bye])) + 1) + (bye % 65535)) 65536)), (85, .int .i64 315000), (83, .agg #[.int .i64 (nextF q3), .int .i64 300000, .int .i64 e3, .bool true, .bool false]), (16, .slice (some ⟨b14, 0, none⟩) 1 1), (13, .pointer (some ⟨b13, 0, none⟩)), (41, .int .i64 3), (10, .int .i64 300000), (40, .agg #[.int .u8 h0, .int .u8 h1, .int .u8 h2, .int .u8 h3]), (9, .pointer (some ⟨b2, 0, none⟩)), (3, .int .u16 bye)] w42 (by kernel_rfl) ?_
                  refine J.head (.int .i64 ((((ansF (nextF q3) ([bye])) + 1) + (bye % 65535)) % 65536)) (congrArg (Value.int .i64) (IntWalk.rem_in _ _ (by omega))) ?_
                  refine J.run 1 K7_101 [(93, .slice (some ⟨b14, 0, none⟩) 1 1), (92, .int .i64 ((((ansF (nextF q3) ([bye])) + 1) + (bye % 65535)) % 65536)), (85, .int .i64 315000), (83, .agg #[.int .i64 (nextF q3), .int .i64 300000, .int .i64 e3, .bool true, .bool false]), (13, .pointer (some ⟨b13, 0, none⟩)), (41, .int .i64 3), (10, .int .i64 300000), (40, .agg #[.int .u8 h0, .int .u8 h1, .int .u8 h2, .int .u8 h3]), (9, .pointer (some ⟨b2, 0, none⟩)), (3, .int .u16 bye)] w42 (by kernel_rfl) ?_
                  have fk35 : (validB (nextF q3) 300000 e3 true false) = true := valid_of (by omega) (by omega) (.inl rfl) (by omega) (by first | rfl | assumption)
                  have fk36 : (instantB 315000) = true := instantB_iff.2 (by omega)
                  have fk37 : (wordB ((((ansF (nextF q3) ([bye])) + 1) + (bye % 65535)) % 65536)) = true := wordB_iff.2 (by omega)
                  have fk38 : ¬ (315000 < 300000) := by omega
                  refine J.callF 94 18 #[.agg #[.int .i64 (nextF q3), .int .i64 300000, .int .i64 e3, .bool true, .bool false], .int .i64 315000, .int .i64 ((((ansF (nextF q3) ([bye])) + 1) + (bye % 65535)) % 65536), .slice (some ⟨b14, 0, none⟩) 1 1] hb18 (by kernel_rfl) (reply_any (nextF q3) 300000 e3 true false 315000 ((((ansF (nextF q3) ([bye])) + 1) + (bye % 65535)) % 65536) (some ⟨b14, 0, none⟩) 1 1 ([bye]) _ ((box_ints [bye] (S54.nth 0 rfl) rfl 1 rfl)) (by omega)) ?_
                  rintro _ w45 ⟨rfl, T14⟩
                  have S65 : Sep w [box b14 [.int .i64 bye] 3, box b13 [.int .i64 (nextF q3), .int .i64 300000, .int .i64 e3, .bool true, .bool false] 31, box b12 [.int .i64 bye] 3, box b11 [.int .i64 q3, .int .i64 0, .int .i64 e3, .bool false, .bool f3] 31, box b10 [.int .i64 bye] 3, box b9 [.int .i64 q2, .int .i64 0, .int .i64 e2, .bool false, .bool f2] 31, box b8 [.int .i64 bye] 3, box b7 [.int .i64 q1, .int .i64 0, .int .i64 e1, .bool false, .bool f1] 31, box b2 [.int .i64 q3, .int .i64 0, .int .i64 e3, .bool false, .bool f3] 31, box b1 [.int .u8 h0, .int .u8 h1, .int .u8 h2, .int .u8 h3] 46] w45 := S54.trans T14
                  clear T14 S54
                  refine J.head (.tuple #[.agg #[.int .i64 (nextF q3), .int .i64 0, .int .i64 (endE e3 (replyR (nextF q3) 300000 315000 ((((ansF (nextF q3) ([bye])) + 1) + (bye % 65535)) % 65536) ([bye]))), .bool false, .bool ((endE e3 (replyR (nextF q3) 300000 315000 ((((ansF (nextF q3) ([bye])) + 1) + (bye % 65535)) % 65536) ([bye]))) == 7)], .int .i64 0]) (by first | (simp only [replyV, zeroQ, fk35, fk12, fk36, fk37, fk38, reduceCtorEq, ↓reduceIte]; done) | simp [replyV, zeroQ, fk35, fk12, fk36, fk37, fk38]) ?_
                  refine J.head (.tuple #[.agg #[.int .i64 (nextF q3), .int .i64 0, .int .i64 (endE e3 false), .bool false, .bool ((endE e3 false) == 7)], .int .i64 0]) (by rw [show (replyR (nextF q3) 300000 315000 ((((ansF (nextF q3) ([bye])) + 1) + (bye % 65535)) % 65536) ([bye])) = false from by first | exact replyR_false (.inl (by omega)) | exact replyR_false (.inr (.inl (by omega))) | exact replyR_false (.inr (.inr (by omega)))]) ?_
                  refine J.run 3 K7_102 [(96, .int .i64 0), (95, .agg #[.int .i64 (nextF q3), .int .i64 0, .int .i64 (endE e3 false), .bool false, .bool ((endE e3 false) == 7)]), (13, .pointer (some ⟨b13, 0, none⟩)), (41, .int .i64 3), (10, .int .i64 300000), (40, .agg #[.int .u8 h0, .int .u8 h1, .int .u8 h2, .int .u8 h3]), (9, .pointer (some ⟨b2, 0, none⟩)), (3, .int .u16 bye)] w45 (by kernel_rfl) ?_
                  refine J.stBox S65 1 31 0 (.agg #[.int .i64 (nextF q3), .int .i64 0, .int .i64 (endE e3 false), .bool false, .bool ((endE e3 false) == 7)]) [.int .i64 (nextF q3), .int .i64 0, .int .i64 (endE e3 false), .bool false, .bool ((endE e3 false) == 7)] [box b14 [.int .i64 bye] 3, box b13 [.int .i64 (nextF q3), .int .i64 0, .int .i64 (endE e3 false), .bool false, .bool ((endE e3 false) == 7)] 31, box b12 [.int .i64 bye] 3, box b11 [.int .i64 q3, .int .i64 0, .int .i64 e3, .bool false, .bool f3] 31, box b10 [.int .i64 bye] 3, box b9 [.int .i64 q2, .int .i64 0, .int .i64 e2, .bool false, .bool f2] 31, box b8 [.int .i64 bye] 3, box b7 [.int .i64 q1, .int .i64 0, .int .i64 e1, .bool false, .bool f1] 31, box b2 [.int .i64 q3, .int .i64 0, .int .i64 e3, .bool false, .bool f3] 31, box b1 [.int .u8 h0, .int .u8 h1, .int .u8 h2, .int .u8 h3] 46] (by kernel_rfl) rfl (by kernel_rfl) (by kernel_rfl) rfl ?_
                  intro w46 S66
                  refine J.run 3 K7_86 [(13, .pointer (some ⟨b13, 0, none⟩)), (41, .int .i64 3), (10, .int .i64 300000), (40, .agg #[.int .u8 h0, .int .u8 h1, .int .u8 h2, .int .u8 h3]), (9, .pointer (some ⟨b2, 0, none⟩)), (3, .int .u16 bye), (19, .int .i64 0)] w46 (by kernel_rfl) ?_
                  exact X5 (nextF q3) (endE e3 false) ((endE e3 false) == 7) w46 (by omega) (by omega) (rfl) S66
                · skip
                  refine J.head (.bool false) (congrArg Value.bool (beq_eq_false_iff_ne.2 fk34)) ?_
                  refine J.run 6 K7_103 [(97, .bool ((h3 % 4) == 1)), (69, .int .u8 (h3 % 4)), (17, .int .i64 (ansF (nextF q3) ([bye]))), (16, .slice (some ⟨b14, 0, none⟩) 1 1), (13, .pointer (some ⟨b13, 0, none⟩)), (41, .int .i64 3), (10, .int .i64 300000), (40, .agg #[.int .u8 h0, .int .u8 h1, .int .u8 h2, .int .u8 h3]), (9, .pointer (some ⟨b2, 0, none⟩)), (3, .int .u16 bye)] w42 (by kernel_rfl) ?_
                  by_cases fk39 : (h3 % 4) = 1
                  · skip
                    refine J.head (.bool true) (congrArg Value.bool (beq_iff_eq.2 fk39)) ?_
                    refine J.run 2 K7_104 [(17, .int .i64 (ansF (nextF q3) ([bye]))), (16, .slice (some ⟨b14, 0, none⟩) 1 1), (13, .pointer (some ⟨b13, 0, none⟩)), (41, .int .i64 3), (10, .int .i64 300000), (40, .agg #[.int .u8 h0, .int .u8 h1, .int .u8 h2, .int .u8 h3]), (9, .pointer (some ⟨b2, 0, none⟩)), (3, .int .u16 bye)] w42 (by kernel_rfl) ?_
                    refine J.ok (OK.ldBox S54 1 100 31 0 (.agg #[.int .i64 (nextF q3), .int .i64 300000, .int .i64 e3, .bool true, .bool false]) (by kernel_rfl) rfl (by kernel_rfl)) ?_
                    refine J.run 3 K7_105 [(103, .int .i64 (IntKind.wrap .i64 bye)), (101, .int .i64 300000), (100, .agg #[.int .i64 (nextF q3), .int .i64 300000, .int .i64 e3, .bool true, .bool false]), (17, .int .i64 (ansF (nextF q3) ([bye]))), (16, .slice (some ⟨b14, 0, none⟩) 1 1), (13, .pointer (some ⟨b13, 0, none⟩)), (41, .int .i64 3), (10, .int .i64 300000), (40, .agg #[.int .u8 h0, .int .u8 h1, .int .u8 h2, .int .u8 h3]), (9, .pointer (some ⟨b2, 0, none⟩)), (3, .int .u16 bye)] w42 (by kernel_rfl) ?_
                    refine J.head (.int .i64 bye) (congrArg (Value.int .i64) (IntWalk.i64_in _ (by omega))) ?_
                    refine J.run 1 K7_106 [(104, .int .i64 (Int.tmod bye 10000)), (101, .int .i64 300000), (100, .agg #[.int .i64 (nextF q3), .int .i64 300000, .int .i64 e3, .bool true, .bool false]), (17, .int .i64 (ansF (nextF q3) ([bye]))), (16, .slice (some ⟨b14, 0, none⟩) 1 1), (13, .pointer (some ⟨b13, 0, none⟩)), (41, .int .i64 3), (10, .int .i64 300000), (40, .agg #[.int .u8 h0, .int .u8 h1, .int .u8 h2, .int .u8 h3]), (9, .pointer (some ⟨b2, 0, none⟩)), (3, .int .u16 bye)] w42 (by kernel_rfl) ?_
                    refine J.head (.int .i64 (bye % 10000)) (congrArg (Value.int .i64) (IntWalk.rem_in _ _ (by omega))) ?_
                    refine J.run 1 K7_107 [(105, .int .i64 (IntKind.wrap .i64 (300000 + (bye % 10000)))), (100, .agg #[.int .i64 (nextF q3), .int .i64 300000, .int .i64 e3, .bool true, .bool false]), (17, .int .i64 (ansF (nextF q3) ([bye]))), (16, .slice (some ⟨b14, 0, none⟩) 1 1), (13, .pointer (some ⟨b13, 0, none⟩)), (41, .int .i64 3), (10, .int .i64 300000), (40, .agg #[.int .u8 h0, .int .u8 h1, .int .u8 h2, .int .u8 h3]), (9, .pointer (some ⟨b2, 0, none⟩)), (3, .int .u16 bye)] w42 (by kernel_rfl) ?_
                    refine J.head (.int .i64 (300000 + (bye % 10000))) (congrArg (Value.int .i64) (IntWalk.i64_in _ (by omega))) ?_
                    refine J.run 2 K7_108 [(107, .slice (some ⟨b14, 0, none⟩) 1 1), (106, .int .i64 (ansF (nextF q3) ([bye]))), (105, .int .i64 (300000 + (bye % 10000))), (100, .agg #[.int .i64 (nextF q3), .int .i64 300000, .int .i64 e3, .bool true, .bool false]), (13, .pointer (some ⟨b13, 0, none⟩)), (41, .int .i64 3), (10, .int .i64 300000), (40, .agg #[.int .u8 h0, .int .u8 h1, .int .u8 h2, .int .u8 h3]), (9, .pointer (some ⟨b2, 0, none⟩)), (3, .int .u16 bye)] w42 (by kernel_rfl) ?_
                    have fk40 : (validB (nextF q3) 300000 e3 true false) = true := valid_of (by omega) (by omega) (.inl rfl) (by omega) (by first | rfl | assumption)
                    have fk41 : (instantB (300000 + (bye % 10000))) = true := instantB_iff.2 (by omega)
                    have fk42 : (wordB (ansF (nextF q3) ([bye]))) = true := wordB_iff.2 (by omega)
                    have fk43 : ¬ ((300000 + (bye % 10000)) < 300000) := by omega
                    refine J.callF 108 18 #[.agg #[.int .i64 (nextF q3), .int .i64 300000, .int .i64 e3, .bool true, .bool false], .int .i64 (300000 + (bye % 10000)), .int .i64 (ansF (nextF q3) ([bye])), .slice (some ⟨b14, 0, none⟩) 1 1] hb18 (by kernel_rfl) (reply_any (nextF q3) 300000 e3 true false (300000 + (bye % 10000)) (ansF (nextF q3) ([bye])) (some ⟨b14, 0, none⟩) 1 1 ([bye]) _ ((box_ints [bye] (S54.nth 0 rfl) rfl 1 rfl)) (by omega)) ?_
                    rintro _ w47 ⟨rfl, T15⟩
                    have S67 : Sep w [box b14 [.int .i64 bye] 3, box b13 [.int .i64 (nextF q3), .int .i64 300000, .int .i64 e3, .bool true, .bool false] 31, box b12 [.int .i64 bye] 3, box b11 [.int .i64 q3, .int .i64 0, .int .i64 e3, .bool false, .bool f3] 31, box b10 [.int .i64 bye] 3, box b9 [.int .i64 q2, .int .i64 0, .int .i64 e2, .bool false, .bool f2] 31, box b8 [.int .i64 bye] 3, box b7 [.int .i64 q1, .int .i64 0, .int .i64 e1, .bool false, .bool f1] 31, box b2 [.int .i64 q3, .int .i64 0, .int .i64 e3, .bool false, .bool f3] 31, box b1 [.int .u8 h0, .int .u8 h1, .int .u8 h2, .int .u8 h3] 46] w47 := S54.trans T15
                    clear T15 S54
                    refine J.head (.tuple #[.agg #[.int .i64 (nextF q3), .int .i64 0, .int .i64 (endE e3 (replyR (nextF q3) 300000 (300000 + (bye % 10000)) (ansF (nextF q3) ([bye])) ([bye]))), .bool false, .bool ((endE e3 (replyR (nextF q3) 300000 (300000 + (bye % 10000)) (ansF (nextF q3) ([bye])) ([bye]))) == 7)], .int .i64 0]) (by first | (simp only [replyV, zeroQ, fk40, fk12, fk41, fk42, fk43, reduceCtorEq, ↓reduceIte]; done) | simp [replyV, zeroQ, fk40, fk12, fk41, fk42, fk43]) ?_
                    refine J.head (.tuple #[.agg #[.int .i64 (nextF q3), .int .i64 0, .int .i64 (endE e3 false), .bool false, .bool ((endE e3 false) == 7)], .int .i64 0]) (by rw [show (replyR (nextF q3) 300000 (300000 + (bye % 10000)) (ansF (nextF q3) ([bye])) ([bye])) = false from by first | exact replyR_false (.inl (by omega)) | exact replyR_false (.inr (.inl (by omega))) | exact replyR_false (.inr (.inr (by omega)))]) ?_
                    refine J.run 3 K7_109 [(110, .int .i64 0), (109, .agg #[.int .i64 (nextF q3), .int .i64 0, .int .i64 (endE e3 false), .bool false, .bool ((endE e3 false) == 7)]), (13, .pointer (some ⟨b13, 0, none⟩)), (41, .int .i64 3), (10, .int .i64 300000), (40, .agg #[.int .u8 h0, .int .u8 h1, .int .u8 h2, .int .u8 h3]), (9, .pointer (some ⟨b2, 0, none⟩)), (3, .int .u16 bye)] w47 (by kernel_rfl) ?_
                    refine J.stBox S67 1 31 0 (.agg #[.int .i64 (nextF q3), .int .i64 0, .int .i64 (endE e3 false), .bool false, .bool ((endE e3 false) == 7)]) [.int .i64 (nextF q3), .int .i64 0, .int .i64 (endE e3 false), .bool false, .bool ((endE e3 false) == 7)] [box b14 [.int .i64 bye] 3, box b13 [.int .i64 (nextF q3), .int .i64 0, .int .i64 (endE e3 false), .bool false, .bool ((endE e3 false) == 7)] 31, box b12 [.int .i64 bye] 3, box b11 [.int .i64 q3, .int .i64 0, .int .i64 e3, .bool false, .bool f3] 31, box b10 [.int .i64 bye] 3, box b9 [.int .i64 q2, .int .i64 0, .int .i64 e2, .bool false, .bool f2] 31, box b8 [.int .i64 bye] 3, box b7 [.int .i64 q1, .int .i64 0, .int .i64 e1, .bool false, .bool f1] 31, box b2 [.int .i64 q3, .int .i64 0, .int .i64 e3, .bool false, .bool f3] 31, box b1 [.int .u8 h0, .int .u8 h1, .int .u8 h2, .int .u8 h3] 46] (by kernel_rfl) rfl (by kernel_rfl) (by kernel_rfl) rfl ?_
                    intro w48 S68
                    refine J.run 3 K7_86 [(13, .pointer (some ⟨b13, 0, none⟩)), (41, .int .i64 3), (10, .int .i64 300000), (40, .agg #[.int .u8 h0, .int .u8 h1, .int .u8 h2, .int .u8 h3]), (9, .pointer (some ⟨b2, 0, none⟩)), (3, .int .u16 bye), (19, .int .i64 0)] w48 (by kernel_rfl) ?_
                    exact X5 (nextF q3) (endE e3 false) ((endE e3 false) == 7) w48 (by omega) (by omega) (rfl) S68
                  · skip
                    refine J.head (.bool false) (congrArg Value.bool (beq_eq_false_iff_ne.2 fk39)) ?_
                    refine J.run 6 K7_110 [(111, .bool ((h3 % 4) == 2)), (17, .int .i64 (ansF (nextF q3) ([bye]))), (16, .slice (some ⟨b14, 0, none⟩) 1 1), (13, .pointer (some ⟨b13, 0, none⟩)), (41, .int .i64 3), (10, .int .i64 300000), (40, .agg #[.int .u8 h0, .int .u8 h1, .int .u8 h2, .int .u8 h3]), (9, .pointer (some ⟨b2, 0, none⟩)), (3, .int .u16 bye)] w42 (by kernel_rfl) ?_
                    by_cases fk44 : (h3 % 4) = 2
                    · skip
                      refine J.head (.bool true) (congrArg Value.bool (beq_iff_eq.2 fk44)) ?_
                      refine J.run 2 K7_111 [(17, .int .i64 (ansF (nextF q3) ([bye]))), (16, .slice (some ⟨b14, 0, none⟩) 1 1), (13, .pointer (some ⟨b13, 0, none⟩)), (41, .int .i64 3), (10, .int .i64 300000), (40, .agg #[.int .u8 h0, .int .u8 h1, .int .u8 h2, .int .u8 h3]), (9, .pointer (some ⟨b2, 0, none⟩)), (3, .int .u16 bye)] w42 (by kernel_rfl) ?_
                      refine J.ok (OK.ldBox S54 1 114 31 0 (.agg #[.int .i64 (nextF q3), .int .i64 300000, .int .i64 e3, .bool true, .bool false]) (by kernel_rfl) rfl (by kernel_rfl)) ?_
                      refine J.run 4 K7_112 [(118, .int .i64 (IntKind.wrap .i64 bye)), (116, .int .i64 320001), (114, .agg #[.int .i64 (nextF q3), .int .i64 300000, .int .i64 e3, .bool true, .bool false]), (17, .int .i64 (ansF (nextF q3) ([bye]))), (16, .slice (some ⟨b14, 0, none⟩) 1 1), (13, .pointer (some ⟨b13, 0, none⟩)), (41, .int .i64 3), (10, .int .i64 300000), (40, .agg #[.int .u8 h0, .int .u8 h1, .int .u8 h2, .int .u8 h3]), (9, .pointer (some ⟨b2, 0, none⟩)), (3, .int .u16 bye)] w42 (by kernel_rfl) ?_
                      refine J.head (.int .i64 bye) (congrArg (Value.int .i64) (IntWalk.i64_in _ (by omega))) ?_
                      refine J.run 1 K7_113 [(119, .int .i64 (IntKind.wrap .i64 (320001 + bye))), (114, .agg #[.int .i64 (nextF q3), .int .i64 300000, .int .i64 e3, .bool true, .bool false]), (17, .int .i64 (ansF (nextF q3) ([bye]))), (16, .slice (some ⟨b14, 0, none⟩) 1 1), (13, .pointer (some ⟨b13, 0, none⟩)), (41, .int .i64 3), (10, .int .i64 300000), (40, .agg #[.int .u8 h0, .int .u8 h1, .int .u8 h2, .int .u8 h3]), (9, .pointer (some ⟨b2, 0, none⟩)), (3, .int .u16 bye)] w42 (by kernel_rfl) ?_
                      refine J.head (.int .i64 (320001 + bye)) (congrArg (Value.int .i64) (IntWalk.i64_in _ (by omega))) ?_
                      refine J.run 2 K7_114 [(121, .slice (some ⟨b14, 0, none⟩) 1 1), (120, .int .i64 (ansF (nextF q3) ([bye]))), (119, .int .i64 (320001 + bye)), (114, .agg #[.int .i64 (nextF q3), .int .i64 300000, .int .i64 e3, .bool true, .bool false]), (13, .pointer (some ⟨b13, 0, none⟩)), (41, .int .i64 3), (10, .int .i64 300000), (40, .agg #[.int .u8 h0, .int .u8 h1, .int .u8 h2, .int .u8 h3]), (9, .pointer (some ⟨b2, 0, none⟩)), (3, .int .u16 bye)] w42 (by kernel_rfl) ?_
                      have fk45 : (validB (nextF q3) 300000 e3 true false) = true := valid_of (by omega) (by omega) (.inl rfl) (by omega) (by first | rfl | assumption)
                      have fk46 : (instantB (320001 + bye)) = true := instantB_iff.2 (by omega)
                      have fk47 : (wordB (ansF (nextF q3) ([bye]))) = true := wordB_iff.2 (by omega)
                      have fk48 : ¬ ((320001 + bye) < 300000) := by omega
                      refine J.callF 122 18 #[.agg #[.int .i64 (nextF q3), .int .i64 300000, .int .i64 e3, .bool true, .bool false], .int .i64 (320001 + bye), .int .i64 (ansF (nextF q3) ([bye])), .slice (some ⟨b14, 0, none⟩) 1 1] hb18 (by kernel_rfl) (reply_any (nextF q3) 300000 e3 true false (320001 + bye) (ansF (nextF q3) ([bye])) (some ⟨b14, 0, none⟩) 1 1 ([bye]) _ ((box_ints [bye] (S54.nth 0 rfl) rfl 1 rfl)) (by omega)) ?_
                      rintro _ w49 ⟨rfl, T16⟩
                      have S69 : Sep w [box b14 [.int .i64 bye] 3, box b13 [.int .i64 (nextF q3), .int .i64 300000, .int .i64 e3, .bool true, .bool false] 31, box b12 [.int .i64 bye] 3, box b11 [.int .i64 q3, .int .i64 0, .int .i64 e3, .bool false, .bool f3] 31, box b10 [.int .i64 bye] 3, box b9 [.int .i64 q2, .int .i64 0, .int .i64 e2, .bool false, .bool f2] 31, box b8 [.int .i64 bye] 3, box b7 [.int .i64 q1, .int .i64 0, .int .i64 e1, .bool false, .bool f1] 31, box b2 [.int .i64 q3, .int .i64 0, .int .i64 e3, .bool false, .bool f3] 31, box b1 [.int .u8 h0, .int .u8 h1, .int .u8 h2, .int .u8 h3] 46] w49 := S54.trans T16
                      clear T16 S54
                      refine J.head (.tuple #[.agg #[.int .i64 (nextF q3), .int .i64 0, .int .i64 (endE e3 (replyR (nextF q3) 300000 (320001 + bye) (ansF (nextF q3) ([bye])) ([bye]))), .bool false, .bool ((endE e3 (replyR (nextF q3) 300000 (320001 + bye) (ansF (nextF q3) ([bye])) ([bye]))) == 7)], .int .i64 0]) (by first | (simp only [replyV, zeroQ, fk45, fk12, fk46, fk47, fk48, reduceCtorEq, ↓reduceIte]; done) | simp [replyV, zeroQ, fk45, fk12, fk46, fk47, fk48]) ?_
                      refine J.head (.tuple #[.agg #[.int .i64 (nextF q3), .int .i64 0, .int .i64 (endE e3 false), .bool false, .bool ((endE e3 false) == 7)], .int .i64 0]) (by rw [show (replyR (nextF q3) 300000 (320001 + bye) (ansF (nextF q3) ([bye])) ([bye])) = false from by first | exact replyR_false (.inl (by omega)) | exact replyR_false (.inr (.inl (by omega))) | exact replyR_false (.inr (.inr (by omega)))]) ?_
                      refine J.run 3 K7_115 [(124, .int .i64 0), (123, .agg #[.int .i64 (nextF q3), .int .i64 0, .int .i64 (endE e3 false), .bool false, .bool ((endE e3 false) == 7)]), (13, .pointer (some ⟨b13, 0, none⟩)), (41, .int .i64 3), (10, .int .i64 300000), (40, .agg #[.int .u8 h0, .int .u8 h1, .int .u8 h2, .int .u8 h3]), (9, .pointer (some ⟨b2, 0, none⟩)), (3, .int .u16 bye)] w49 (by kernel_rfl) ?_
                      refine J.stBox S69 1 31 0 (.agg #[.int .i64 (nextF q3), .int .i64 0, .int .i64 (endE e3 false), .bool false, .bool ((endE e3 false) == 7)]) [.int .i64 (nextF q3), .int .i64 0, .int .i64 (endE e3 false), .bool false, .bool ((endE e3 false) == 7)] [box b14 [.int .i64 bye] 3, box b13 [.int .i64 (nextF q3), .int .i64 0, .int .i64 (endE e3 false), .bool false, .bool ((endE e3 false) == 7)] 31, box b12 [.int .i64 bye] 3, box b11 [.int .i64 q3, .int .i64 0, .int .i64 e3, .bool false, .bool f3] 31, box b10 [.int .i64 bye] 3, box b9 [.int .i64 q2, .int .i64 0, .int .i64 e2, .bool false, .bool f2] 31, box b8 [.int .i64 bye] 3, box b7 [.int .i64 q1, .int .i64 0, .int .i64 e1, .bool false, .bool f1] 31, box b2 [.int .i64 q3, .int .i64 0, .int .i64 e3, .bool false, .bool f3] 31, box b1 [.int .u8 h0, .int .u8 h1, .int .u8 h2, .int .u8 h3] 46] (by kernel_rfl) rfl (by kernel_rfl) (by kernel_rfl) rfl ?_
                      intro w50 S70
                      refine J.run 3 K7_86 [(13, .pointer (some ⟨b13, 0, none⟩)), (41, .int .i64 3), (10, .int .i64 300000), (40, .agg #[.int .u8 h0, .int .u8 h1, .int .u8 h2, .int .u8 h3]), (9, .pointer (some ⟨b2, 0, none⟩)), (3, .int .u16 bye), (19, .int .i64 0)] w50 (by kernel_rfl) ?_
                      exact X5 (nextF q3) (endE e3 false) ((endE e3 false) == 7) w50 (by omega) (by omega) (rfl) S70
                    · skip
                      refine J.head (.bool false) (congrArg Value.bool (beq_eq_false_iff_ne.2 fk44)) ?_
                      refine J.run 2 K7_116 [(13, .pointer (some ⟨b13, 0, none⟩)), (41, .int .i64 3), (10, .int .i64 300000), (40, .agg #[.int .u8 h0, .int .u8 h1, .int .u8 h2, .int .u8 h3]), (9, .pointer (some ⟨b2, 0, none⟩)), (3, .int .u16 bye)] w42 (by kernel_rfl) ?_
                      refine J.ok (OK.ldBox S54 1 71 31 0 (.agg #[.int .i64 (nextF q3), .int .i64 300000, .int .i64 e3, .bool true, .bool false]) (by kernel_rfl) rfl (by kernel_rfl)) ?_
                      refine J.run 4 K7_117 [(75, .int .i64 (IntKind.wrap .i64 bye)), (73, .int .i64 320001), (71, .agg #[.int .i64 (nextF q3), .int .i64 300000, .int .i64 e3, .bool true, .bool false]), (13, .pointer (some ⟨b13, 0, none⟩)), (41, .int .i64 3), (10, .int .i64 300000), (40, .agg #[.int .u8 h0, .int .u8 h1, .int .u8 h2, .int .u8 h3]), (9, .pointer (some ⟨b2, 0, none⟩)), (3, .int .u16 bye)] w42 (by kernel_rfl) ?_
                      refine J.head (.int .i64 bye) (congrArg (Value.int .i64) (IntWalk.i64_in _ (by omega))) ?_
                      refine J.run 1 K7_118 [(76, .int .i64 (IntKind.wrap .i64 (320001 + bye))), (71, .agg #[.int .i64 (nextF q3), .int .i64 300000, .int .i64 e3, .bool true, .bool false]), (13, .pointer (some ⟨b13, 0, none⟩)), (41, .int .i64 3), (10, .int .i64 300000), (40, .agg #[.int .u8 h0, .int .u8 h1, .int .u8 h2, .int .u8 h3]), (9, .pointer (some ⟨b2, 0, none⟩)), (3, .int .u16 bye)] w42 (by kernel_rfl) ?_
                      refine J.head (.int .i64 (320001 + bye)) (congrArg (Value.int .i64) (IntWalk.i64_in _ (by omega))) ?_
                      have fk49 : (validB (nextF q3) 300000 e3 true false) = true := valid_of (by omega) (by omega) (.inl rfl) (by omega) (by first | rfl | assumption)
                      have fk50 : (instantB (320001 + bye)) = true := instantB_iff.2 (by omega)
                      have fk51 : ¬ ((320001 + bye) < 300000) := by omega
                      have fk52 : 20000 < ((320001 + bye) - 300000) := by omega
                      refine J.callF 77 19 #[.agg #[.int .i64 (nextF q3), .int .i64 300000, .int .i64 e3, .bool true, .bool false], .int .i64 (320001 + bye)] hb19 (by kernel_rfl) (tick_any (nextF q3) 300000 e3 true false (320001 + bye) _) ?_
                      rintro _ w51 ⟨rfl, T17⟩
                      have S71 : Sep w [box b14 [.int .i64 bye] 3, box b13 [.int .i64 (nextF q3), .int .i64 300000, .int .i64 e3, .bool true, .bool false] 31, box b12 [.int .i64 bye] 3, box b11 [.int .i64 q3, .int .i64 0, .int .i64 e3, .bool false, .bool f3] 31, box b10 [.int .i64 bye] 3, box b9 [.int .i64 q2, .int .i64 0, .int .i64 e2, .bool false, .bool f2] 31, box b8 [.int .i64 bye] 3, box b7 [.int .i64 q1, .int .i64 0, .int .i64 e1, .bool false, .bool f1] 31, box b2 [.int .i64 q3, .int .i64 0, .int .i64 e3, .bool false, .bool f3] 31, box b1 [.int .u8 h0, .int .u8 h1, .int .u8 h2, .int .u8 h3] 46] w51 := S54.trans T17
                      clear T17 S54
                      refine J.head (.tuple #[.agg #[.int .i64 (nextF q3), .int .i64 0, .int .i64 (endE e3 false), .bool false, .bool ((endE e3 false) == 7)], .int .i64 0]) (by first | (simp only [tickV, zeroQ, fk49, fk50, fk51, fk52, reduceCtorEq, ↓reduceIte]; done) | simp [tickV, zeroQ, fk49, fk50, fk51, fk52]) ?_
                      refine J.run 3 K7_119 [(79, .int .i64 0), (78, .agg #[.int .i64 (nextF q3), .int .i64 0, .int .i64 (endE e3 false), .bool false, .bool ((endE e3 false) == 7)]), (13, .pointer (some ⟨b13, 0, none⟩)), (41, .int .i64 3), (10, .int .i64 300000), (40, .agg #[.int .u8 h0, .int .u8 h1, .int .u8 h2, .int .u8 h3]), (9, .pointer (some ⟨b2, 0, none⟩)), (3, .int .u16 bye)] w51 (by kernel_rfl) ?_
                      refine J.stBox S71 1 31 0 (.agg #[.int .i64 (nextF q3), .int .i64 0, .int .i64 (endE e3 false), .bool false, .bool ((endE e3 false) == 7)]) [.int .i64 (nextF q3), .int .i64 0, .int .i64 (endE e3 false), .bool false, .bool ((endE e3 false) == 7)] [box b14 [.int .i64 bye] 3, box b13 [.int .i64 (nextF q3), .int .i64 0, .int .i64 (endE e3 false), .bool false, .bool ((endE e3 false) == 7)] 31, box b12 [.int .i64 bye] 3, box b11 [.int .i64 q3, .int .i64 0, .int .i64 e3, .bool false, .bool f3] 31, box b10 [.int .i64 bye] 3, box b9 [.int .i64 q2, .int .i64 0, .int .i64 e2, .bool false, .bool f2] 31, box b8 [.int .i64 bye] 3, box b7 [.int .i64 q1, .int .i64 0, .int .i64 e1, .bool false, .bool f1] 31, box b2 [.int .i64 q3, .int .i64 0, .int .i64 e3, .bool false, .bool f3] 31, box b1 [.int .u8 h0, .int .u8 h1, .int .u8 h2, .int .u8 h3] 46] (by kernel_rfl) rfl (by kernel_rfl) (by kernel_rfl) rfl ?_
                      intro w52 S72
                      refine J.run 3 K7_86 [(13, .pointer (some ⟨b13, 0, none⟩)), (41, .int .i64 3), (10, .int .i64 300000), (40, .agg #[.int .u8 h0, .int .u8 h1, .int .u8 h2, .int .u8 h3]), (9, .pointer (some ⟨b2, 0, none⟩)), (3, .int .u16 bye), (19, .int .i64 0)] w52 (by kernel_rfl) ?_
                      exact X5 (nextF q3) (endE e3 false) ((endE e3 false) == 7) w52 (by omega) (by omega) (rfl) S72
            refine J.run 6 K7_120 [(80, .bool ((h2 % 4) == 0)), (69, .int .u8 (h2 % 4)), (17, .int .i64 (ansF (nextF q2) ([bye]))), (16, .slice (some ⟨b12, 0, none⟩) 1 1), (13, .pointer (some ⟨b11, 0, none⟩)), (41, .int .i64 2), (10, .int .i64 200000), (40, .agg #[.int .u8 h0, .int .u8 h1, .int .u8 h2, .int .u8 h3]), (9, .pointer (some ⟨b2, 0, none⟩)), (3, .int .u16 bye)] w35 (by kernel_rfl) ?_
            by_cases fk53 : (h2 % 4) = 0
            · skip
              refine J.head (.bool true) (congrArg Value.bool (beq_iff_eq.2 fk53)) ?_
              refine J.run 2 K7_121 [(17, .int .i64 (ansF (nextF q2) ([bye]))), (16, .slice (some ⟨b12, 0, none⟩) 1 1), (13, .pointer (some ⟨b11, 0, none⟩)), (41, .int .i64 2), (10, .int .i64 200000), (40, .agg #[.int .u8 h0, .int .u8 h1, .int .u8 h2, .int .u8 h3]), (9, .pointer (some ⟨b2, 0, none⟩)), (3, .int .u16 bye)] w35 (by kernel_rfl) ?_
              refine J.ok (OK.ldBox S41 1 83 31 0 (.agg #[.int .i64 (nextF q2), .int .i64 200000, .int .i64 e2, .bool true, .bool false]) (by kernel_rfl) rfl (by kernel_rfl)) ?_
              refine J.run 4 K7_122 [(87, .int .i64 (IntKind.wrap .i64 ((ansF (nextF q2) ([bye])) + 1))), (85, .int .i64 215000), (83, .agg #[.int .i64 (nextF q2), .int .i64 200000, .int .i64 e2, .bool true, .bool false]), (16, .slice (some ⟨b12, 0, none⟩) 1 1), (13, .pointer (some ⟨b11, 0, none⟩)), (41, .int .i64 2), (10, .int .i64 200000), (40, .agg #[.int .u8 h0, .int .u8 h1, .int .u8 h2, .int .u8 h3]), (9, .pointer (some ⟨b2, 0, none⟩)), (3, .int .u16 bye)] w35 (by kernel_rfl) ?_
              refine J.head (.int .i64 ((ansF (nextF q2) ([bye])) + 1)) (congrArg (Value.int .i64) (IntWalk.i64_in _ (by omega))) ?_
              refine J.run 2 K7_123 [(89, .int .i64 (IntKind.wrap .i64 bye)), (87, .int .i64 ((ansF (nextF q2) ([bye])) + 1)), (85, .int .i64 215000), (83, .agg #[.int .i64 (nextF q2), .int .i64 200000, .int .i64 e2, .bool true, .bool false]), (16, .slice (some ⟨b12, 0, none⟩) 1 1), (13, .pointer (some ⟨b11, 0, none⟩)), (41, .int .i64 2), (10, .int .i64 200000), (40, .agg #[.int .u8 h0, .int .u8 h1, .int .u8 h2, .int .u8 h3]), (9, .pointer (some ⟨b2, 0, none⟩)), (3, .int .u16 bye)] w35 (by kernel_rfl) ?_
              refine J.head (.int .i64 bye) (congrArg (Value.int .i64) (IntWalk.i64_in _ (by omega))) ?_
              refine J.run 1 K7_124 [(90, .int .i64 (Int.tmod bye 65535)), (87, .int .i64 ((ansF (nextF q2) ([bye])) + 1)), (85, .int .i64 215000), (83, .agg #[.int .i64 (nextF q2), .int .i64 200000, .int .i64 e2, .bool true, .bool false]), (16, .slice (some ⟨b12, 0, none⟩) 1 1), (13, .pointer (some ⟨b11, 0, none⟩)), (41, .int .i64 2), (10, .int .i64 200000), (40, .agg #[.int .u8 h0, .int .u8 h1, .int .u8 h2, .int .u8 h3]), (9, .pointer (some ⟨b2, 0, none⟩)), (3, .int .u16 bye)] w35 (by kernel_rfl) ?_
              refine J.head (.int .i64 (bye % 65535)) (congrArg (Value.int .i64) (IntWalk.rem_in _ _ (by omega))) ?_
              refine J.run 1 K7_125 [(91, .int .i64 (IntKind.wrap .i64 (((ansF (nextF q2) ([bye])) + 1) + (bye % 65535)))), (85, .int .i64 215000), (83, .agg #[.int .i64 (nextF q2), .int .i64 200000, .int .i64 e2, .bool true, .bool false]), (16, .slice (some ⟨b12, 0, none⟩) 1 1), (13, .pointer (some ⟨b11, 0, none⟩)), (41, .int .i64 2), (10, .int .i64 200000), (40, .agg #[.int .u8 h0, .int .u8 h1, .int .u8 h2, .int .u8 h3]), (9, .pointer (some ⟨b2, 0, none⟩)), (3, .int .u16 bye)] w35 (by kernel_rfl) ?_
              refine J.head (.int .i64 (((ansF (nextF q2) ([bye])) + 1) + (bye % 65535))) (congrArg (Value.int .i64) (IntWalk.i64_in _ (by omega))) ?_
              refine J.run 1 K7_126 [(92, .int .i64 (Int.tmod (((ansF (nextF q2) ([bye])) + 1) + (bye % 65535)) 65536)), (85, .int .i64 215000), (83, .agg #[.int .i64 (nextF q2), .int .i64 200000, .int .i64 e2, .bool true, .bool false]), (16, .slice (some ⟨b12, 0, none⟩) 1 1), (13, .pointer (some ⟨b11, 0, none⟩)), (41, .int .i64 2), (10, .int .i64 200000), (40, .agg #[.int .u8 h0, .int .u8 h1, .int .u8 h2, .int .u8 h3]), (9, .pointer (some ⟨b2, 0, none⟩)), (3, .int .u16 bye)] w35 (by kernel_rfl) ?_
              refine J.head (.int .i64 ((((ansF (nextF q2) ([bye])) + 1) + (bye % 65535)) % 65536)) (congrArg (Value.int .i64) (IntWalk.rem_in _ _ (by omega))) ?_
              refine J.run 1 K7_127 [(93, .slice (some ⟨b12, 0, none⟩) 1 1), (92, .int .i64 ((((ansF (nextF q2) ([bye])) + 1) + (bye % 65535)) % 65536)), (85, .int .i64 215000), (83, .agg #[.int .i64 (nextF q2), .int .i64 200000, .int .i64 e2, .bool true, .bool false]), (13, .pointer (some ⟨b11, 0, none⟩)), (41, .int .i64 2), (10, .int .i64 200000), (40, .agg #[.int .u8 h0, .int .u8 h1, .int .u8 h2, .int .u8 h3]), (9, .pointer (some ⟨b2, 0, none⟩)), (3, .int .u16 bye)] w35 (by kernel_rfl) ?_
              have fk54 : (validB (nextF q2) 200000 e2 true false) = true := valid_of (by omega) (by omega) (.inl rfl) (by omega) (by first | rfl | assumption)
              have fk55 : (instantB 215000) = true := instantB_iff.2 (by omega)
              have fk56 : (wordB ((((ansF (nextF q2) ([bye])) + 1) + (bye % 65535)) % 65536)) = true := wordB_iff.2 (by omega)
              have fk57 : ¬ (215000 < 200000) := by omega
              refine J.callF 94 18 #[.agg #[.int .i64 (nextF q2), .int .i64 200000, .int .i64 e2, .bool true, .bool false], .int .i64 215000, .int .i64 ((((ansF (nextF q2) ([bye])) + 1) + (bye % 65535)) % 65536), .slice (some ⟨b12, 0, none⟩) 1 1] hb18 (by kernel_rfl) (reply_any (nextF q2) 200000 e2 true false 215000 ((((ansF (nextF q2) ([bye])) + 1) + (bye % 65535)) % 65536) (some ⟨b12, 0, none⟩) 1 1 ([bye]) _ ((box_ints [bye] (S41.nth 0 rfl) rfl 1 rfl)) (by omega)) ?_
              rintro _ w53 ⟨rfl, T18⟩
              have S73 : Sep w [box b12 [.int .i64 bye] 3, box b11 [.int .i64 (nextF q2), .int .i64 200000, .int .i64 e2, .bool true, .bool false] 31, box b10 [.int .i64 bye] 3, box b9 [.int .i64 q2, .int .i64 0, .int .i64 e2, .bool false, .bool f2] 31, box b8 [.int .i64 bye] 3, box b7 [.int .i64 q1, .int .i64 0, .int .i64 e1, .bool false, .bool f1] 31, box b2 [.int .i64 q2, .int .i64 0, .int .i64 e2, .bool false, .bool f2] 31, box b1 [.int .u8 h0, .int .u8 h1, .int .u8 h2, .int .u8 h3] 46] w53 := S41.trans T18
              clear T18 S41
              refine J.head (.tuple #[.agg #[.int .i64 (nextF q2), .int .i64 0, .int .i64 (endE e2 (replyR (nextF q2) 200000 215000 ((((ansF (nextF q2) ([bye])) + 1) + (bye % 65535)) % 65536) ([bye]))), .bool false, .bool ((endE e2 (replyR (nextF q2) 200000 215000 ((((ansF (nextF q2) ([bye])) + 1) + (bye % 65535)) % 65536) ([bye]))) == 7)], .int .i64 0]) (by first | (simp only [replyV, zeroQ, fk54, fk12, fk55, fk56, fk57, reduceCtorEq, ↓reduceIte]; done) | simp [replyV, zeroQ, fk54, fk12, fk55, fk56, fk57]) ?_
              refine J.head (.tuple #[.agg #[.int .i64 (nextF q2), .int .i64 0, .int .i64 (endE e2 false), .bool false, .bool ((endE e2 false) == 7)], .int .i64 0]) (by rw [show (replyR (nextF q2) 200000 215000 ((((ansF (nextF q2) ([bye])) + 1) + (bye % 65535)) % 65536) ([bye])) = false from by first | exact replyR_false (.inl (by omega)) | exact replyR_false (.inr (.inl (by omega))) | exact replyR_false (.inr (.inr (by omega)))]) ?_
              refine J.run 3 K7_128 [(96, .int .i64 0), (95, .agg #[.int .i64 (nextF q2), .int .i64 0, .int .i64 (endE e2 false), .bool false, .bool ((endE e2 false) == 7)]), (13, .pointer (some ⟨b11, 0, none⟩)), (41, .int .i64 2), (10, .int .i64 200000), (40, .agg #[.int .u8 h0, .int .u8 h1, .int .u8 h2, .int .u8 h3]), (9, .pointer (some ⟨b2, 0, none⟩)), (3, .int .u16 bye)] w53 (by kernel_rfl) ?_
              refine J.stBox S73 1 31 0 (.agg #[.int .i64 (nextF q2), .int .i64 0, .int .i64 (endE e2 false), .bool false, .bool ((endE e2 false) == 7)]) [.int .i64 (nextF q2), .int .i64 0, .int .i64 (endE e2 false), .bool false, .bool ((endE e2 false) == 7)] [box b12 [.int .i64 bye] 3, box b11 [.int .i64 (nextF q2), .int .i64 0, .int .i64 (endE e2 false), .bool false, .bool ((endE e2 false) == 7)] 31, box b10 [.int .i64 bye] 3, box b9 [.int .i64 q2, .int .i64 0, .int .i64 e2, .bool false, .bool f2] 31, box b8 [.int .i64 bye] 3, box b7 [.int .i64 q1, .int .i64 0, .int .i64 e1, .bool false, .bool f1] 31, box b2 [.int .i64 q2, .int .i64 0, .int .i64 e2, .bool false, .bool f2] 31, box b1 [.int .u8 h0, .int .u8 h1, .int .u8 h2, .int .u8 h3] 46] (by kernel_rfl) rfl (by kernel_rfl) (by kernel_rfl) rfl ?_
              intro w54 S74
              refine J.run 3 K7_69 [(13, .pointer (some ⟨b11, 0, none⟩)), (41, .int .i64 2), (10, .int .i64 200000), (40, .agg #[.int .u8 h0, .int .u8 h1, .int .u8 h2, .int .u8 h3]), (9, .pointer (some ⟨b2, 0, none⟩)), (3, .int .u16 bye), (19, .int .i64 0)] w54 (by kernel_rfl) ?_
              exact X4 (nextF q2) (endE e2 false) ((endE e2 false) == 7) w54 (by omega) (by omega) (rfl) S74
            · skip
              refine J.head (.bool false) (congrArg Value.bool (beq_eq_false_iff_ne.2 fk53)) ?_
              refine J.run 6 K7_129 [(97, .bool ((h2 % 4) == 1)), (69, .int .u8 (h2 % 4)), (17, .int .i64 (ansF (nextF q2) ([bye]))), (16, .slice (some ⟨b12, 0, none⟩) 1 1), (13, .pointer (some ⟨b11, 0, none⟩)), (41, .int .i64 2), (10, .int .i64 200000), (40, .agg #[.int .u8 h0, .int .u8 h1, .int .u8 h2, .int .u8 h3]), (9, .pointer (some ⟨b2, 0, none⟩)), (3, .int .u16 bye)] w35 (by kernel_rfl) ?_
              by_cases fk58 : (h2 % 4) = 1
              · skip
                refine J.head (.bool true) (congrArg Value.bool (beq_iff_eq.2 fk58)) ?_
                refine J.run 2 K7_130 [(17, .int .i64 (ansF (nextF q2) ([bye]))), (16, .slice (some ⟨b12, 0, none⟩) 1 1), (13, .pointer (some ⟨b11, 0, none⟩)), (41, .int .i64 2), (10, .int .i64 200000), (40, .agg #[.int .u8 h0, .int .u8 h1, .int .u8 h2, .int .u8 h3]), (9, .pointer (some ⟨b2, 0, none⟩)), (3, .int .u16 bye)] w35 (by kernel_rfl) ?_
                refine J.ok (OK.ldBox S41 1 100 31 0 (.agg #[.int .i64 (nextF q2), .int .i64 200000, .int .i64 e2, .bool true, .bool false]) (by kernel_rfl) rfl (by kernel_rfl)) ?_
                refine J.run 3 K7_131 [(103, .int .i64 (IntKind.wrap .i64 bye)), (101, .int .i64 200000), (100, .agg #[.int .i64 (nextF q2), .int .i64 200000, .int .i64 e2, .bool true, .bool false]), (17, .int .i64 (ansF (nextF q2) ([bye]))), (16, .slice (some ⟨b12, 0, none⟩) 1 1), (13, .pointer (some ⟨b11, 0, none⟩)), (41, .int .i64 2), (10, .int .i64 200000), (40, .agg #[.int .u8 h0, .int .u8 h1, .int .u8 h2, .int .u8 h3]), (9, .pointer (some ⟨b2, 0, none⟩)), (3, .int .u16 bye)] w35 (by kernel_rfl) ?_
                refine J.head (.int .i64 bye) (congrArg (Value.int .i64) (IntWalk.i64_in _ (by omega))) ?_
                refine J.run 1 K7_132 [(104, .int .i64 (Int.tmod bye 10000)), (101, .int .i64 200000), (100, .agg #[.int .i64 (nextF q2), .int .i64 200000, .int .i64 e2, .bool true, .bool false]), (17, .int .i64 (ansF (nextF q2) ([bye]))), (16, .slice (some ⟨b12, 0, none⟩) 1 1), (13, .pointer (some ⟨b11, 0, none⟩)), (41, .int .i64 2), (10, .int .i64 200000), (40, .agg #[.int .u8 h0, .int .u8 h1, .int .u8 h2, .int .u8 h3]), (9, .pointer (some ⟨b2, 0, none⟩)), (3, .int .u16 bye)] w35 (by kernel_rfl) ?_
                refine J.head (.int .i64 (bye % 10000)) (congrArg (Value.int .i64) (IntWalk.rem_in _ _ (by omega))) ?_
                refine J.run 1 K7_133 [(105, .int .i64 (IntKind.wrap .i64 (200000 + (bye % 10000)))), (100, .agg #[.int .i64 (nextF q2), .int .i64 200000, .int .i64 e2, .bool true, .bool false]), (17, .int .i64 (ansF (nextF q2) ([bye]))), (16, .slice (some ⟨b12, 0, none⟩) 1 1), (13, .pointer (some ⟨b11, 0, none⟩)), (41, .int .i64 2), (10, .int .i64 200000), (40, .agg #[.int .u8 h0, .int .u8 h1, .int .u8 h2, .int .u8 h3]), (9, .pointer (some ⟨b2, 0, none⟩)), (3, .int .u16 bye)] w35 (by kernel_rfl) ?_
                refine J.head (.int .i64 (200000 + (bye % 10000))) (congrArg (Value.int .i64) (IntWalk.i64_in _ (by omega))) ?_
                refine J.run 2 K7_134 [(107, .slice (some ⟨b12, 0, none⟩) 1 1), (106, .int .i64 (ansF (nextF q2) ([bye]))), (105, .int .i64 (200000 + (bye % 10000))), (100, .agg #[.int .i64 (nextF q2), .int .i64 200000, .int .i64 e2, .bool true, .bool false]), (13, .pointer (some ⟨b11, 0, none⟩)), (41, .int .i64 2), (10, .int .i64 200000), (40, .agg #[.int .u8 h0, .int .u8 h1, .int .u8 h2, .int .u8 h3]), (9, .pointer (some ⟨b2, 0, none⟩)), (3, .int .u16 bye)] w35 (by kernel_rfl) ?_
                have fk59 : (validB (nextF q2) 200000 e2 true false) = true := valid_of (by omega) (by omega) (.inl rfl) (by omega) (by first | rfl | assumption)
                have fk60 : (instantB (200000 + (bye % 10000))) = true := instantB_iff.2 (by omega)
                have fk61 : (wordB (ansF (nextF q2) ([bye]))) = true := wordB_iff.2 (by omega)
                have fk62 : ¬ ((200000 + (bye % 10000)) < 200000) := by omega
                refine J.callF 108 18 #[.agg #[.int .i64 (nextF q2), .int .i64 200000, .int .i64 e2, .bool true, .bool false], .int .i64 (200000 + (bye % 10000)), .int .i64 (ansF (nextF q2) ([bye])), .slice (some ⟨b12, 0, none⟩) 1 1] hb18 (by kernel_rfl) (reply_any (nextF q2) 200000 e2 true false (200000 + (bye % 10000)) (ansF (nextF q2) ([bye])) (some ⟨b12, 0, none⟩) 1 1 ([bye]) _ ((box_ints [bye] (S41.nth 0 rfl) rfl 1 rfl)) (by omega)) ?_
                rintro _ w55 ⟨rfl, T19⟩
                have S75 : Sep w [box b12 [.int .i64 bye] 3, box b11 [.int .i64 (nextF q2), .int .i64 200000, .int .i64 e2, .bool true, .bool false] 31, box b10 [.int .i64 bye] 3, box b9 [.int .i64 q2, .int .i64 0, .int .i64 e2, .bool false, .bool f2] 31, box b8 [.int .i64 bye] 3, box b7 [.int .i64 q1, .int .i64 0, .int .i64 e1, .bool false, .bool f1] 31, box b2 [.int .i64 q2, .int .i64 0, .int .i64 e2, .bool false, .bool f2] 31, box b1 [.int .u8 h0, .int .u8 h1, .int .u8 h2, .int .u8 h3] 46] w55 := S41.trans T19
                clear T19 S41
                refine J.head (.tuple #[.agg #[.int .i64 (nextF q2), .int .i64 0, .int .i64 (endE e2 (replyR (nextF q2) 200000 (200000 + (bye % 10000)) (ansF (nextF q2) ([bye])) ([bye]))), .bool false, .bool ((endE e2 (replyR (nextF q2) 200000 (200000 + (bye % 10000)) (ansF (nextF q2) ([bye])) ([bye]))) == 7)], .int .i64 0]) (by first | (simp only [replyV, zeroQ, fk59, fk12, fk60, fk61, fk62, reduceCtorEq, ↓reduceIte]; done) | simp [replyV, zeroQ, fk59, fk12, fk60, fk61, fk62]) ?_
                refine J.head (.tuple #[.agg #[.int .i64 (nextF q2), .int .i64 0, .int .i64 (endE e2 false), .bool false, .bool ((endE e2 false) == 7)], .int .i64 0]) (by rw [show (replyR (nextF q2) 200000 (200000 + (bye % 10000)) (ansF (nextF q2) ([bye])) ([bye])) = false from by first | exact replyR_false (.inl (by omega)) | exact replyR_false (.inr (.inl (by omega))) | exact replyR_false (.inr (.inr (by omega)))]) ?_
                refine J.run 3 K7_135 [(110, .int .i64 0), (109, .agg #[.int .i64 (nextF q2), .int .i64 0, .int .i64 (endE e2 false), .bool false, .bool ((endE e2 false) == 7)]), (13, .pointer (some ⟨b11, 0, none⟩)), (41, .int .i64 2), (10, .int .i64 200000), (40, .agg #[.int .u8 h0, .int .u8 h1, .int .u8 h2, .int .u8 h3]), (9, .pointer (some ⟨b2, 0, none⟩)), (3, .int .u16 bye)] w55 (by kernel_rfl) ?_
                refine J.stBox S75 1 31 0 (.agg #[.int .i64 (nextF q2), .int .i64 0, .int .i64 (endE e2 false), .bool false, .bool ((endE e2 false) == 7)]) [.int .i64 (nextF q2), .int .i64 0, .int .i64 (endE e2 false), .bool false, .bool ((endE e2 false) == 7)] [box b12 [.int .i64 bye] 3, box b11 [.int .i64 (nextF q2), .int .i64 0, .int .i64 (endE e2 false), .bool false, .bool ((endE e2 false) == 7)] 31, box b10 [.int .i64 bye] 3, box b9 [.int .i64 q2, .int .i64 0, .int .i64 e2, .bool false, .bool f2] 31, box b8 [.int .i64 bye] 3, box b7 [.int .i64 q1, .int .i64 0, .int .i64 e1, .bool false, .bool f1] 31, box b2 [.int .i64 q2, .int .i64 0, .int .i64 e2, .bool false, .bool f2] 31, box b1 [.int .u8 h0, .int .u8 h1, .int .u8 h2, .int .u8 h3] 46] (by kernel_rfl) rfl (by kernel_rfl) (by kernel_rfl) rfl ?_
                intro w56 S76
                refine J.run 3 K7_69 [(13, .pointer (some ⟨b11, 0, none⟩)), (41, .int .i64 2), (10, .int .i64 200000), (40, .agg #[.int .u8 h0, .int .u8 h1, .int .u8 h2, .int .u8 h3]), (9, .pointer (some ⟨b2, 0, none⟩)), (3, .int .u16 bye), (19, .int .i64 0)] w56 (by kernel_rfl) ?_
                exact X4 (nextF q2) (endE e2 false) ((endE e2 false) == 7) w56 (by omega) (by omega) (rfl) S76
              · skip
                refine J.head (.bool false) (congrArg Value.bool (beq_eq_false_iff_ne.2 fk58)) ?_
                refine J.run 6 K7_136 [(111, .bool ((h2 % 4) == 2)), (17, .int .i64 (ansF (nextF q2) ([bye]))), (16, .slice (some ⟨b12, 0, none⟩) 1 1), (13, .pointer (some ⟨b11, 0, none⟩)), (41, .int .i64 2), (10, .int .i64 200000), (40, .agg #[.int .u8 h0, .int .u8 h1, .int .u8 h2, .int .u8 h3]), (9, .pointer (some ⟨b2, 0, none⟩)), (3, .int .u16 bye)] w35 (by kernel_rfl) ?_
                by_cases fk63 : (h2 % 4) = 2
                · skip
                  refine J.head (.bool true) (congrArg Value.bool (beq_iff_eq.2 fk63)) ?_
                  refine J.run 2 K7_137 [(17, .int .i64 (ansF (nextF q2) ([bye]))), (16, .slice (some ⟨b12, 0, none⟩) 1 1), (13, .pointer (some ⟨b11, 0, none⟩)), (41, .int .i64 2), (10, .int .i64 200000), (40, .agg #[.int .u8 h0, .int .u8 h1, .int .u8 h2, .int .u8 h3]), (9, .pointer (some ⟨b2, 0, none⟩)), (3, .int .u16 bye)] w35 (by kernel_rfl) ?_
                  refine J.ok (OK.ldBox S41 1 114 31 0 (.agg #[.int .i64 (nextF q2), .int .i64 200000, .int .i64 e2, .bool true, .bool false]) (by kernel_rfl) rfl (by kernel_rfl)) ?_
                  refine J.run 4 K7_138 [(118, .int .i64 (IntKind.wrap .i64 bye)), (116, .int .i64 220001), (114, .agg #[.int .i64 (nextF q2), .int .i64 200000, .int .i64 e2, .bool true, .bool false]), (17, .int .i64 (ansF (nextF q2) ([bye]))), (16, .slice (some ⟨b12, 0, none⟩) 1 1), (13, .pointer (some ⟨b11, 0, none⟩)), (41, .int .i64 2), (10, .int .i64 200000), (40, .agg #[.int .u8 h0, .int .u8 h1, .int .u8 h2, .int .u8 h3]), (9, .pointer (some ⟨b2, 0, none⟩)), (3, .int .u16 bye)] w35 (by kernel_rfl) ?_
                  refine J.head (.int .i64 bye) (congrArg (Value.int .i64) (IntWalk.i64_in _ (by omega))) ?_
                  refine J.run 1 K7_139 [(119, .int .i64 (IntKind.wrap .i64 (220001 + bye))), (114, .agg #[.int .i64 (nextF q2), .int .i64 200000, .int .i64 e2, .bool true, .bool false]), (17, .int .i64 (ansF (nextF q2) ([bye]))), (16, .slice (some ⟨b12, 0, none⟩) 1 1), (13, .pointer (some ⟨b11, 0, none⟩)), (41, .int .i64 2), (10, .int .i64 200000), (40, .agg #[.int .u8 h0, .int .u8 h1, .int .u8 h2, .int .u8 h3]), (9, .pointer (some ⟨b2, 0, none⟩)), (3, .int .u16 bye)] w35 (by kernel_rfl) ?_
                  refine J.head (.int .i64 (220001 + bye)) (congrArg (Value.int .i64) (IntWalk.i64_in _ (by omega))) ?_
                  refine J.run 2 K7_140 [(121, .slice (some ⟨b12, 0, none⟩) 1 1), (120, .int .i64 (ansF (nextF q2) ([bye]))), (119, .int .i64 (220001 + bye)), (114, .agg #[.int .i64 (nextF q2), .int .i64 200000, .int .i64 e2, .bool true, .bool false]), (13, .pointer (some ⟨b11, 0, none⟩)), (41, .int .i64 2), (10, .int .i64 200000), (40, .agg #[.int .u8 h0, .int .u8 h1, .int .u8 h2, .int .u8 h3]), (9, .pointer (some ⟨b2, 0, none⟩)), (3, .int .u16 bye)] w35 (by kernel_rfl) ?_
                  have fk64 : (validB (nextF q2) 200000 e2 true false) = true := valid_of (by omega) (by omega) (.inl rfl) (by omega) (by first | rfl | assumption)
                  have fk65 : (instantB (220001 + bye)) = true := instantB_iff.2 (by omega)
                  have fk66 : (wordB (ansF (nextF q2) ([bye]))) = true := wordB_iff.2 (by omega)
                  have fk67 : ¬ ((220001 + bye) < 200000) := by omega
                  refine J.callF 122 18 #[.agg #[.int .i64 (nextF q2), .int .i64 200000, .int .i64 e2, .bool true, .bool false], .int .i64 (220001 + bye), .int .i64 (ansF (nextF q2) ([bye])), .slice (some ⟨b12, 0, none⟩) 1 1] hb18 (by kernel_rfl) (reply_any (nextF q2) 200000 e2 true false (220001 + bye) (ansF (nextF q2) ([bye])) (some ⟨b12, 0, none⟩) 1 1 ([bye]) _ ((box_ints [bye] (S41.nth 0 rfl) rfl 1 rfl)) (by omega)) ?_
                  rintro _ w57 ⟨rfl, T20⟩
                  have S77 : Sep w [box b12 [.int .i64 bye] 3, box b11 [.int .i64 (nextF q2), .int .i64 200000, .int .i64 e2, .bool true, .bool false] 31, box b10 [.int .i64 bye] 3, box b9 [.int .i64 q2, .int .i64 0, .int .i64 e2, .bool false, .bool f2] 31, box b8 [.int .i64 bye] 3, box b7 [.int .i64 q1, .int .i64 0, .int .i64 e1, .bool false, .bool f1] 31, box b2 [.int .i64 q2, .int .i64 0, .int .i64 e2, .bool false, .bool f2] 31, box b1 [.int .u8 h0, .int .u8 h1, .int .u8 h2, .int .u8 h3] 46] w57 := S41.trans T20
                  clear T20 S41
                  refine J.head (.tuple #[.agg #[.int .i64 (nextF q2), .int .i64 0, .int .i64 (endE e2 (replyR (nextF q2) 200000 (220001 + bye) (ansF (nextF q2) ([bye])) ([bye]))), .bool false, .bool ((endE e2 (replyR (nextF q2) 200000 (220001 + bye) (ansF (nextF q2) ([bye])) ([bye]))) == 7)], .int .i64 0]) (by first | (simp only [replyV, zeroQ, fk64, fk12, fk65, fk66, fk67, reduceCtorEq, ↓reduceIte]; done) | simp [replyV, zeroQ, fk64, fk12, fk65, fk66, fk67]) ?_
                  refine J.head (.tuple #[.agg #[.int .i64 (nextF q2), .int .i64 0, .int .i64 (endE e2 false), .bool false, .bool ((endE e2 false) == 7)], .int .i64 0]) (by rw [show (replyR (nextF q2) 200000 (220001 + bye) (ansF (nextF q2) ([bye])) ([bye])) = false from by first | exact replyR_false (.inl (by omega)) | exact replyR_false (.inr (.inl (by omega))) | exact replyR_false (.inr (.inr (by omega)))]) ?_
                  refine J.run 3 K7_141 [(124, .int .i64 0), (123, .agg #[.int .i64 (nextF q2), .int .i64 0, .int .i64 (endE e2 false), .bool false, .bool ((endE e2 false) == 7)]), (13, .pointer (some ⟨b11, 0, none⟩)), (41, .int .i64 2), (10, .int .i64 200000), (40, .agg #[.int .u8 h0, .int .u8 h1, .int .u8 h2, .int .u8 h3]), (9, .pointer (some ⟨b2, 0, none⟩)), (3, .int .u16 bye)] w57 (by kernel_rfl) ?_
                  refine J.stBox S77 1 31 0 (.agg #[.int .i64 (nextF q2), .int .i64 0, .int .i64 (endE e2 false), .bool false, .bool ((endE e2 false) == 7)]) [.int .i64 (nextF q2), .int .i64 0, .int .i64 (endE e2 false), .bool false, .bool ((endE e2 false) == 7)] [box b12 [.int .i64 bye] 3, box b11 [.int .i64 (nextF q2), .int .i64 0, .int .i64 (endE e2 false), .bool false, .bool ((endE e2 false) == 7)] 31, box b10 [.int .i64 bye] 3, box b9 [.int .i64 q2, .int .i64 0, .int .i64 e2, .bool false, .bool f2] 31, box b8 [.int .i64 bye] 3, box b7 [.int .i64 q1, .int .i64 0, .int .i64 e1, .bool false, .bool f1] 31, box b2 [.int .i64 q2, .int .i64 0, .int .i64 e2, .bool false, .bool f2] 31, box b1 [.int .u8 h0, .int .u8 h1, .int .u8 h2, .int .u8 h3] 46] (by kernel_rfl) rfl (by kernel_rfl) (by kernel_rfl) rfl ?_
                  intro w58 S78
                  refine J.run 3 K7_69 [(13, .pointer (some ⟨b11, 0, none⟩)), (41, .int .i64 2), (10, .int .i64 200000), (40, .agg #[.int .u8 h0, .int .u8 h1, .int .u8 h2, .int .u8 h3]), (9, .pointer (some ⟨b2, 0, none⟩)), (3, .int .u16 bye), (19, .int .i64 0)] w58 (by kernel_rfl) ?_
                  exact X4 (nextF q2) (endE e2 false) ((endE e2 false) == 7) w58 (by omega) (by omega) (rfl) S78
                · skip
                  refine J.head (.bool false) (congrArg Value.bool (beq_eq_false_iff_ne.2 fk63)) ?_
                  refine J.run 2 K7_142 [(13, .pointer (some ⟨b11, 0, none⟩)), (41, .int .i64 2), (10, .int .i64 200000), (40, .agg #[.int .u8 h0, .int .u8 h1, .int .u8 h2, .int .u8 h3]), (9, .pointer (some ⟨b2, 0, none⟩)), (3, .int .u16 bye)] w35 (by kernel_rfl) ?_
                  refine J.ok (OK.ldBox S41 1 71 31 0 (.agg #[.int .i64 (nextF q2), .int .i64 200000, .int .i64 e2, .bool true, .bool false]) (by kernel_rfl) rfl (by kernel_rfl)) ?_
                  refine J.run 4 K7_143 [(75, .int .i64 (IntKind.wrap .i64 bye)), (73, .int .i64 220001), (71, .agg #[.int .i64 (nextF q2), .int .i64 200000, .int .i64 e2, .bool true, .bool false]), (13, .pointer (some ⟨b11, 0, none⟩)), (41, .int .i64 2), (10, .int .i64 200000), (40, .agg #[.int .u8 h0, .int .u8 h1, .int .u8 h2, .int .u8 h3]), (9, .pointer (some ⟨b2, 0, none⟩)), (3, .int .u16 bye)] w35 (by kernel_rfl) ?_
                  refine J.head (.int .i64 bye) (congrArg (Value.int .i64) (IntWalk.i64_in _ (by omega))) ?_
                  refine J.run 1 K7_144 [(76, .int .i64 (IntKind.wrap .i64 (220001 + bye))), (71, .agg #[.int .i64 (nextF q2), .int .i64 200000, .int .i64 e2, .bool true, .bool false]), (13, .pointer (some ⟨b11, 0, none⟩)), (41, .int .i64 2), (10, .int .i64 200000), (40, .agg #[.int .u8 h0, .int .u8 h1, .int .u8 h2, .int .u8 h3]), (9, .pointer (some ⟨b2, 0, none⟩)), (3, .int .u16 bye)] w35 (by kernel_rfl) ?_
                  refine J.head (.int .i64 (220001 + bye)) (congrArg (Value.int .i64) (IntWalk.i64_in _ (by omega))) ?_
                  have fk68 : (validB (nextF q2) 200000 e2 true false) = true := valid_of (by omega) (by omega) (.inl rfl) (by omega) (by first | rfl | assumption)
                  have fk69 : (instantB (220001 + bye)) = true := instantB_iff.2 (by omega)
                  have fk70 : ¬ ((220001 + bye) < 200000) := by omega
                  have fk71 : 20000 < ((220001 + bye) - 200000) := by omega
                  refine J.callF 77 19 #[.agg #[.int .i64 (nextF q2), .int .i64 200000, .int .i64 e2, .bool true, .bool false], .int .i64 (220001 + bye)] hb19 (by kernel_rfl) (tick_any (nextF q2) 200000 e2 true false (220001 + bye) _) ?_
                  rintro _ w59 ⟨rfl, T21⟩
                  have S79 : Sep w [box b12 [.int .i64 bye] 3, box b11 [.int .i64 (nextF q2), .int .i64 200000, .int .i64 e2, .bool true, .bool false] 31, box b10 [.int .i64 bye] 3, box b9 [.int .i64 q2, .int .i64 0, .int .i64 e2, .bool false, .bool f2] 31, box b8 [.int .i64 bye] 3, box b7 [.int .i64 q1, .int .i64 0, .int .i64 e1, .bool false, .bool f1] 31, box b2 [.int .i64 q2, .int .i64 0, .int .i64 e2, .bool false, .bool f2] 31, box b1 [.int .u8 h0, .int .u8 h1, .int .u8 h2, .int .u8 h3] 46] w59 := S41.trans T21
                  clear T21 S41
                  refine J.head (.tuple #[.agg #[.int .i64 (nextF q2), .int .i64 0, .int .i64 (endE e2 false), .bool false, .bool ((endE e2 false) == 7)], .int .i64 0]) (by first | (simp only [tickV, zeroQ, fk68, fk69, fk70, fk71, reduceCtorEq, ↓reduceIte]; done) | simp [tickV, zeroQ, fk68, fk69, fk70, fk71]) ?_
                  refine J.run 3 K7_145 [(79, .int .i64 0), (78, .agg #[.int .i64 (nextF q2), .int .i64 0, .int .i64 (endE e2 false), .bool false, .bool ((endE e2 false) == 7)]), (13, .pointer (some ⟨b11, 0, none⟩)), (41, .int .i64 2), (10, .int .i64 200000), (40, .agg #[.int .u8 h0, .int .u8 h1, .int .u8 h2, .int .u8 h3]), (9, .pointer (some ⟨b2, 0, none⟩)), (3, .int .u16 bye)] w59 (by kernel_rfl) ?_
                  refine J.stBox S79 1 31 0 (.agg #[.int .i64 (nextF q2), .int .i64 0, .int .i64 (endE e2 false), .bool false, .bool ((endE e2 false) == 7)]) [.int .i64 (nextF q2), .int .i64 0, .int .i64 (endE e2 false), .bool false, .bool ((endE e2 false) == 7)] [box b12 [.int .i64 bye] 3, box b11 [.int .i64 (nextF q2), .int .i64 0, .int .i64 (endE e2 false), .bool false, .bool ((endE e2 false) == 7)] 31, box b10 [.int .i64 bye] 3, box b9 [.int .i64 q2, .int .i64 0, .int .i64 e2, .bool false, .bool f2] 31, box b8 [.int .i64 bye] 3, box b7 [.int .i64 q1, .int .i64 0, .int .i64 e1, .bool false, .bool f1] 31, box b2 [.int .i64 q2, .int .i64 0, .int .i64 e2, .bool false, .bool f2] 31, box b1 [.int .u8 h0, .int .u8 h1, .int .u8 h2, .int .u8 h3] 46] (by kernel_rfl) rfl (by kernel_rfl) (by kernel_rfl) rfl ?_
                  intro w60 S80
                  refine J.run 3 K7_69 [(13, .pointer (some ⟨b11, 0, none⟩)), (41, .int .i64 2), (10, .int .i64 200000), (40, .agg #[.int .u8 h0, .int .u8 h1, .int .u8 h2, .int .u8 h3]), (9, .pointer (some ⟨b2, 0, none⟩)), (3, .int .u16 bye), (19, .int .i64 0)] w60 (by kernel_rfl) ?_
                  exact X4 (nextF q2) (endE e2 false) ((endE e2 false) == 7) w60 (by omega) (by omega) (rfl) S80
        refine J.run 6 K7_146 [(80, .bool ((h1 % 4) == 0)), (69, .int .u8 (h1 % 4)), (17, .int .i64 (ansF (nextF q1) ([bye]))), (16, .slice (some ⟨b10, 0, none⟩) 1 1), (13, .pointer (some ⟨b9, 0, none⟩)), (41, .int .i64 1), (10, .int .i64 100000), (40, .agg #[.int .u8 h0, .int .u8 h1, .int .u8 h2, .int .u8 h3]), (9, .pointer (some ⟨b2, 0, none⟩)), (3, .int .u16 bye)] w28 (by kernel_rfl) ?_
        by_cases fk72 : (h1 % 4) = 0
        · skip
          refine J.head (.bool true) (congrArg Value.bool (beq_iff_eq.2 fk72)) ?_
          refine J.run 2 K7_147 [(17, .int .i64 (ansF (nextF q1) ([bye]))), (16, .slice (some ⟨b10, 0, none⟩) 1 1), (13, .pointer (some ⟨b9, 0, none⟩)), (41, .int .i64 1), (10, .int .i64 100000), (40, .agg #[.int .u8 h0, .int .u8 h1, .int .u8 h2, .int .u8 h3]), (9, .pointer (some ⟨b2, 0, none⟩)), (3, .int .u16 bye)] w28 (by kernel_rfl) ?_
          refine J.ok (OK.ldBox S30 1 83 31 0 (.agg #[.int .i64 (nextF q1), .int .i64 100000, .int .i64 e1, .bool true, .bool false]) (by kernel_rfl) rfl (by kernel_rfl)) ?_
          refine J.run 4 K7_148 [(87, .int .i64 (IntKind.wrap .i64 ((ansF (nextF q1) ([bye])) + 1))), (85, .int .i64 115000), (83, .agg #[.int .i64 (nextF q1), .int .i64 100000, .int .i64 e1, .bool true, .bool false]), (16, .slice (some ⟨b10, 0, none⟩) 1 1), (13, .pointer (some ⟨b9, 0, none⟩)), (41, .int .i64 1), (10, .int .i64 100000), (40, .agg #[.int .u8 h0, .int .u8 h1, .int .u8 h2, .int .u8 h3]), (9, .pointer (some ⟨b2, 0, none⟩)), (3, .int .u16 bye)] w28 (by kernel_rfl) ?_
          refine J.head (.int .i64 ((ansF (nextF q1) ([bye])) + 1)) (congrArg (Value.int .i64) (IntWalk.i64_in _ (by omega))) ?_
          refine J.run 2 K7_149 [(89, .int .i64 (IntKind.wrap .i64 bye)), (87, .int .i64 ((ansF (nextF q1) ([bye])) + 1)), (85, .int .i64 115000), (83, .agg #[.int .i64 (nextF q1), .int .i64 100000, .int .i64 e1, .bool true, .bool false]), (16, .slice (some ⟨b10, 0, none⟩) 1 1), (13, .pointer (some ⟨b9, 0, none⟩)), (41, .int .i64 1), (10, .int .i64 100000), (40, .agg #[.int .u8 h0, .int .u8 h1, .int .u8 h2, .int .u8 h3]), (9, .pointer (some ⟨b2, 0, none⟩)), (3, .int .u16 bye)] w28 (by kernel_rfl) ?_
          refine J.head (.int .i64 bye) (congrArg (Value.int .i64) (IntWalk.i64_in _ (by omega))) ?_
          refine J.run 1 K7_150 [(90, .int .i64 (Int.tmod bye 65535)), (87, .int .i64 ((ansF (nextF q1) ([bye])) + 1)), (85, .int .i64 115000), (83, .agg #[.int .i64 (nextF q1), .int .i64 100000, .int .i64 e1, .bool true, .bool false]), (16, .slice (some ⟨b10, 0, none⟩) 1 1), (13, .pointer (some ⟨b9, 0, none⟩)), (41, .int .i64 1), (10, .int .i64 100000), (40, .agg #[.int .u8 h0, .int .u8 h1, .int .u8 h2, .int .u8 h3]), (9, .pointer (some ⟨b2, 0, none⟩)), (3, .int .u16 bye)] w28 (by kernel_rfl) ?_
          refine J.head (.int .i64 (bye % 65535)) (congrArg (Value.int .i64) (IntWalk.rem_in _ _ (by omega))) ?_
          refine J.run 1 K7_151 [(91, .int .i64 (IntKind.wrap .i64 (((ansF (nextF q1) ([bye])) + 1) + (bye % 65535)))), (85, .int .i64 115000), (83, .agg #[.int .i64 (nextF q1), .int .i64 100000, .int .i64 e1, .bool true, .bool false]), (16, .slice (some ⟨b10, 0, none⟩) 1 1), (13, .pointer (some ⟨b9, 0, none⟩)), (41, .int .i64 1), (10, .int .i64 100000), (40, .agg #[.int .u8 h0, .int .u8 h1, .int .u8 h2, .int .u8 h3]), (9, .pointer (some ⟨b2, 0, none⟩)), (3, .int .u16 bye)] w28 (by kernel_rfl) ?_
          refine J.head (.int .i64 (((ansF (nextF q1) ([bye])) + 1) + (bye % 65535))) (congrArg (Value.int .i64) (IntWalk.i64_in _ (by omega))) ?_
          refine J.run 1 K7_152 [(92, .int .i64 (Int.tmod (((ansF (nextF q1) ([bye])) + 1) + (bye % 65535)) 65536)), (85, .int .i64 115000), (83, .agg #[.int .i64 (nextF q1), .int .i64 100000, .int .i64 e1, .bool true, .bool false]), (16, .slice (some ⟨b10, 0, none⟩) 1 1), (13, .pointer (some ⟨b9, 0, none⟩)), (41, .int .i64 1), (10, .int .i64 100000), (40, .agg #[.int .u8 h0, .int .u8 h1, .int .u8 h2, .int .u8 h3]), (9, .pointer (some ⟨b2, 0, none⟩)), (3, .int .u16 bye)] w28 (by kernel_rfl) ?_
          refine J.head (.int .i64 ((((ansF (nextF q1) ([bye])) + 1) + (bye % 65535)) % 65536)) (congrArg (Value.int .i64) (IntWalk.rem_in _ _ (by omega))) ?_
          refine J.run 1 K7_153 [(93, .slice (some ⟨b10, 0, none⟩) 1 1), (92, .int .i64 ((((ansF (nextF q1) ([bye])) + 1) + (bye % 65535)) % 65536)), (85, .int .i64 115000), (83, .agg #[.int .i64 (nextF q1), .int .i64 100000, .int .i64 e1, .bool true, .bool false]), (13, .pointer (some ⟨b9, 0, none⟩)), (41, .int .i64 1), (10, .int .i64 100000), (40, .agg #[.int .u8 h0, .int .u8 h1, .int .u8 h2, .int .u8 h3]), (9, .pointer (some ⟨b2, 0, none⟩)), (3, .int .u16 bye)] w28 (by kernel_rfl) ?_
          have fk73 : (validB (nextF q1) 100000 e1 true false) = true := valid_of (by omega) (by omega) (.inl rfl) (by omega) (by first | rfl | assumption)
          have fk74 : (instantB 115000) = true := instantB_iff.2 (by omega)
          have fk75 : (wordB ((((ansF (nextF q1) ([bye])) + 1) + (bye % 65535)) % 65536)) = true := wordB_iff.2 (by omega)
          have fk76 : ¬ (115000 < 100000) := by omega
          refine J.callF 94 18 #[.agg #[.int .i64 (nextF q1), .int .i64 100000, .int .i64 e1, .bool true, .bool false], .int .i64 115000, .int .i64 ((((ansF (nextF q1) ([bye])) + 1) + (bye % 65535)) % 65536), .slice (some ⟨b10, 0, none⟩) 1 1] hb18 (by kernel_rfl) (reply_any (nextF q1) 100000 e1 true false 115000 ((((ansF (nextF q1) ([bye])) + 1) + (bye % 65535)) % 65536) (some ⟨b10, 0, none⟩) 1 1 ([bye]) _ ((box_ints [bye] (S30.nth 0 rfl) rfl 1 rfl)) (by omega)) ?_
          rintro _ w61 ⟨rfl, T22⟩
          have S81 : Sep w [box b10 [.int .i64 bye] 3, box b9 [.int .i64 (nextF q1), .int .i64 100000, .int .i64 e1, .bool true, .bool false] 31, box b8 [.int .i64 bye] 3, box b7 [.int .i64 q1, .int .i64 0, .int .i64 e1, .bool false, .bool f1] 31, box b2 [.int .i64 q1, .int .i64 0, .int .i64 e1, .bool false, .bool f1] 31, box b1 [.int .u8 h0, .int .u8 h1, .int .u8 h2, .int .u8 h3] 46] w61 := S30.trans T22
          clear T22 S30
          refine J.head (.tuple #[.agg #[.int .i64 (nextF q1), .int .i64 0, .int .i64 (endE e1 (replyR (nextF q1) 100000 115000 ((((ansF (nextF q1) ([bye])) + 1) + (bye % 65535)) % 65536) ([bye]))), .bool false, .bool ((endE e1 (replyR (nextF q1) 100000 115000 ((((ansF (nextF q1) ([bye])) + 1) + (bye % 65535)) % 65536) ([bye]))) == 7)], .int .i64 0]) (by first | (simp only [replyV, zeroQ, fk73, fk12, fk74, fk75, fk76, reduceCtorEq, ↓reduceIte]; done) | simp [replyV, zeroQ, fk73, fk12, fk74, fk75, fk76]) ?_
          refine J.head (.tuple #[.agg #[.int .i64 (nextF q1), .int .i64 0, .int .i64 (endE e1 false), .bool false, .bool ((endE e1 false) == 7)], .int .i64 0]) (by rw [show (replyR (nextF q1) 100000 115000 ((((ansF (nextF q1) ([bye])) + 1) + (bye % 65535)) % 65536) ([bye])) = false from by first | exact replyR_false (.inl (by omega)) | exact replyR_false (.inr (.inl (by omega))) | exact replyR_false (.inr (.inr (by omega)))]) ?_
          refine J.run 3 K7_154 [(96, .int .i64 0), (95, .agg #[.int .i64 (nextF q1), .int .i64 0, .int .i64 (endE e1 false), .bool false, .bool ((endE e1 false) == 7)]), (13, .pointer (some ⟨b9, 0, none⟩)), (41, .int .i64 1), (10, .int .i64 100000), (40, .agg #[.int .u8 h0, .int .u8 h1, .int .u8 h2, .int .u8 h3]), (9, .pointer (some ⟨b2, 0, none⟩)), (3, .int .u16 bye)] w61 (by kernel_rfl) ?_
          refine J.stBox S81 1 31 0 (.agg #[.int .i64 (nextF q1), .int .i64 0, .int .i64 (endE e1 false), .bool false, .bool ((endE e1 false) == 7)]) [.int .i64 (nextF q1), .int .i64 0, .int .i64 (endE e1 false), .bool false, .bool ((endE e1 false) == 7)] [box b10 [.int .i64 bye] 3, box b9 [.int .i64 (nextF q1), .int .i64 0, .int .i64 (endE e1 false), .bool false, .bool ((endE e1 false) == 7)] 31, box b8 [.int .i64 bye] 3, box b7 [.int .i64 q1, .int .i64 0, .int .i64 e1, .bool false, .bool f1] 31, box b2 [.int .i64 q1, .int .i64 0, .int .i64 e1, .bool false, .bool f1] 31, box b1 [.int .u8 h0, .int .u8 h1, .int .u8 h2, .int .u8 h3] 46] (by kernel_rfl) rfl (by kernel_rfl) (by kernel_rfl) rfl ?_
          intro w62 S82
          refine J.run 3 K7_52 [(13, .pointer (some ⟨b9, 0, none⟩)), (41, .int .i64 1), (10, .int .i64 100000), (40, .agg #[.int .u8 h0, .int .u8 h1, .int .u8 h2, .int .u8 h3]), (9, .pointer (some ⟨b2, 0, none⟩)), (3, .int .u16 bye), (19, .int .i64 0)] w62 (by kernel_rfl) ?_
          exact X3 (nextF q1) (endE e1 false) ((endE e1 false) == 7) w62 (by omega) (by omega) (rfl) S82
        · skip
          refine J.head (.bool false) (congrArg Value.bool (beq_eq_false_iff_ne.2 fk72)) ?_
          refine J.run 6 K7_155 [(97, .bool ((h1 % 4) == 1)), (69, .int .u8 (h1 % 4)), (17, .int .i64 (ansF (nextF q1) ([bye]))), (16, .slice (some ⟨b10, 0, none⟩) 1 1), (13, .pointer (some ⟨b9, 0, none⟩)), (41, .int .i64 1), (10, .int .i64 100000), (40, .agg #[.int .u8 h0, .int .u8 h1, .int .u8 h2, .int .u8 h3]), (9, .pointer (some ⟨b2, 0, none⟩)), (3, .int .u16 bye)] w28 (by kernel_rfl) ?_
          by_cases fk77 : (h1 % 4) = 1
          · skip
            refine J.head (.bool true) (congrArg Value.bool (beq_iff_eq.2 fk77)) ?_
            refine J.run 2 K7_156 [(17, .int .i64 (ansF (nextF q1) ([bye]))), (16, .slice (some ⟨b10, 0, none⟩) 1 1), (13, .pointer (some ⟨b9, 0, none⟩)), (41, .int .i64 1), (10, .int .i64 100000), (40, .agg #[.int .u8 h0, .int .u8 h1, .int .u8 h2, .int .u8 h3]), (9, .pointer (some ⟨b2, 0, none⟩)), (3, .int .u16 bye)] w28 (by kernel_rfl) ?_
            refine J.ok (OK.ldBox S30 1 100 31 0 (.agg #[.int .i64 (nextF q1), .int .i64 100000, .int .i64 e1, .bool true, .bool false]) (by kernel_rfl) rfl (by kernel_rfl)) ?_
            refine J.run 3 K7_157 [(103, .int .i64 (IntKind.wrap .i64 bye)), (101, .int .i64 100000), (100, .agg #[.int .i64 (nextF q1), .int .i64 100000, .int .i64 e1, .bool true, .bool false]), (17, .int .i64 (ansF (nextF q1) ([bye]))), (16, .slice (some ⟨b10, 0, none⟩) 1 1), (13, .pointer (some ⟨b9, 0, none⟩)), (41, .int .i64 1), (10, .int .i64 100000), (40, .agg #[.int .u8 h0, .int .u8 h1, .int .u8 h2, .int .u8 h3]), (9, .pointer (some ⟨b2, 0, none⟩)), (3, .int .u16 bye)] w28 (by kernel_rfl) ?_
            refine J.head (.int .i64 bye) (congrArg (Value.int .i64) (IntWalk.i64_in _ (by omega))) ?_
            refine J.run 1 K7_158 [(104, .int .i64 (Int.tmod bye 10000)), (101, .int .i64 100000), (100, .agg #[.int .i64 (nextF q1), .int .i64 100000, .int .i64 e1, .bool true, .bool false]), (17, .int .i64 (ansF (nextF q1) ([bye]))), (16, .slice (some ⟨b10, 0, none⟩) 1 1), (13, .pointer (some ⟨b9, 0, none⟩)), (41, .int .i64 1), (10, .int .i64 100000), (40, .agg #[.int .u8 h0, .int .u8 h1, .int .u8 h2, .int .u8 h3]), (9, .pointer (some ⟨b2, 0, none⟩)), (3, .int .u16 bye)] w28 (by kernel_rfl) ?_
            refine J.head (.int .i64 (bye % 10000)) (congrArg (Value.int .i64) (IntWalk.rem_in _ _ (by omega))) ?_
            refine J.run 1 K7_159 [(105, .int .i64 (IntKind.wrap .i64 (100000 + (bye % 10000)))), (100, .agg #[.int .i64 (nextF q1), .int .i64 100000, .int .i64 e1, .bool true, .bool false]), (17, .int .i64 (ansF (nextF q1) ([bye]))), (16, .slice (some ⟨b10, 0, none⟩) 1 1), (13, .pointer (some ⟨b9, 0, none⟩)), (41, .int .i64 1), (10, .int .i64 100000), (40, .agg #[.int .u8 h0, .int .u8 h1, .int .u8 h2, .int .u8 h3]), (9, .pointer (some ⟨b2, 0, none⟩)), (3, .int .u16 bye)] w28 (by kernel_rfl) ?_
            refine J.head (.int .i64 (100000 + (bye % 10000))) (congrArg (Value.int .i64) (IntWalk.i64_in _ (by omega))) ?_
            refine J.run 2 K7_160 [(107, .slice (some ⟨b10, 0, none⟩) 1 1), (106, .int .i64 (ansF (nextF q1) ([bye]))), (105, .int .i64 (100000 + (bye % 10000))), (100, .agg #[.int .i64 (nextF q1), .int .i64 100000, .int .i64 e1, .bool true, .bool false]), (13, .pointer (some ⟨b9, 0, none⟩)), (41, .int .i64 1), (10, .int .i64 100000), (40, .agg #[.int .u8 h0, .int .u8 h1, .int .u8 h2, .int .u8 h3]), (9, .pointer (some ⟨b2, 0, none⟩)), (3, .int .u16 bye)] w28 (by kernel_rfl) ?_
            have fk78 : (validB (nextF q1) 100000 e1 true false) = true := valid_of (by omega) (by omega) (.inl rfl) (by omega) (by first | rfl | assumption)
            have fk79 : (instantB (100000 + (bye % 10000))) = true := instantB_iff.2 (by omega)
            have fk80 : (wordB (ansF (nextF q1) ([bye]))) = true := wordB_iff.2 (by omega)
            have fk81 : ¬ ((100000 + (bye % 10000)) < 100000) := by omega
            refine J.callF 108 18 #[.agg #[.int .i64 (nextF q1), .int .i64 100000, .int .i64 e1, .bool true, .bool false], .int .i64 (100000 + (bye % 10000)), .int .i64 (ansF (nextF q1) ([bye])), .slice (some ⟨b10, 0, none⟩) 1 1] hb18 (by kernel_rfl) (reply_any (nextF q1) 100000 e1 true false (100000 + (bye % 10000)) (ansF (nextF q1) ([bye])) (some ⟨b10, 0, none⟩) 1 1 ([bye]) _ ((box_ints [bye] (S30.nth 0 rfl) rfl 1 rfl)) (by omega)) ?_
            rintro _ w63 ⟨rfl, T23⟩
            have S83 : Sep w [box b10 [.int .i64 bye] 3, box b9 [.int .i64 (nextF q1), .int .i64 100000, .int .i64 e1, .bool true, .bool false] 31, box b8 [.int .i64 bye] 3, box b7 [.int .i64 q1, .int .i64 0, .int .i64 e1, .bool false, .bool f1] 31, box b2 [.int .i64 q1, .int .i64 0, .int .i64 e1, .bool false, .bool f1] 31, box b1 [.int .u8 h0, .int .u8 h1, .int .u8 h2, .int .u8 h3] 46] w63 := S30.trans T23
            clear T23 S30
            refine J.head (.tuple #[.agg #[.int .i64 (nextF q1), .int .i64 0, .int .i64 (endE e1 (replyR (nextF q1) 100000 (100000 + (bye % 10000)) (ansF (nextF q1) ([bye])) ([bye]))), .bool false, .bool ((endE e1 (replyR (nextF q1) 100000 (100000 + (bye % 10000)) (ansF (nextF q1) ([bye])) ([bye]))) == 7)], .int .i64 0]) (by first | (simp only [replyV, zeroQ, fk78, fk12, fk79, fk80, fk81, reduceCtorEq, ↓reduceIte]; done) | simp [replyV, zeroQ, fk78, fk12, fk79, fk80, fk81]) ?_
            refine J.head (.tuple #[.agg #[.int .i64 (nextF q1), .int .i64 0, .int .i64 (endE e1 false), .bool false, .bool ((endE e1 false) == 7)], .int .i64 0]) (by rw [show (replyR (nextF q1) 100000 (100000 + (bye % 10000)) (ansF (nextF q1) ([bye])) ([bye])) = false from by first | exact replyR_false (.inl (by omega)) | exact replyR_false (.inr (.inl (by omega))) | exact replyR_false (.inr (.inr (by omega)))]) ?_
            refine J.run 3 K7_161 [(110, .int .i64 0), (109, .agg #[.int .i64 (nextF q1), .int .i64 0, .int .i64 (endE e1 false), .bool false, .bool ((endE e1 false) == 7)]), (13, .pointer (some ⟨b9, 0, none⟩)), (41, .int .i64 1), (10, .int .i64 100000), (40, .agg #[.int .u8 h0, .int .u8 h1, .int .u8 h2, .int .u8 h3]), (9, .pointer (some ⟨b2, 0, none⟩)), (3, .int .u16 bye)] w63 (by kernel_rfl) ?_
            refine J.stBox S83 1 31 0 (.agg #[.int .i64 (nextF q1), .int .i64 0, .int .i64 (endE e1 false), .bool false, .bool ((endE e1 false) == 7)]) [.int .i64 (nextF q1), .int .i64 0, .int .i64 (endE e1 false), .bool false, .bool ((endE e1 false) == 7)] [box b10 [.int .i64 bye] 3, box b9 [.int .i64 (nextF q1), .int .i64 0, .int .i64 (endE e1 false), .bool false, .bool ((endE e1 false) == 7)] 31, box b8 [.int .i64 bye] 3, box b7 [.int .i64 q1, .int .i64 0, .int .i64 e1, .bool false, .bool f1] 31, box b2 [.int .i64 q1, .int .i64 0, .int .i64 e1, .bool false, .bool f1] 31, box b1 [.int .u8 h0, .int .u8 h1, .int .u8 h2, .int .u8 h3] 46] (by kernel_rfl) rfl (by kernel_rfl) (by kernel_rfl) rfl ?_
            intro w64 S84
            refine J.run 3 K7_52 [(13, .pointer (some ⟨b9, 0, none⟩)), (41, .int .i64 1), (10, .int .i64 100000), (40, .agg #[.int .u8 h0, .int .u8 h1, .int .u8 h2, .int .u8 h3]), (9, .pointer (some ⟨b2, 0, none⟩)), (3, .int .u16 bye), (19, .int .i64 0)] w64 (by kernel_rfl) ?_
            exact X3 (nextF q1) (endE e1 false) ((endE e1 false) == 7) w64 (by omega) (by omega) (rfl) S84
          · skip
            refine J.head (.bool false) (congrArg Value.bool (beq_eq_false_iff_ne.2 fk77)) ?_
            refine J.run 6 K7_162 [(111, .bool ((h1 % 4) == 2)), (17, .int .i64 (ansF (nextF q1) ([bye]))), (16, .slice (some ⟨b10, 0, none⟩) 1 1), (13, .pointer (some ⟨b9, 0, none⟩)), (41, .int .i64 1), (10, .int .i64 100000), (40, .agg #[.int .u8 h0, .int .u8 h1, .int .u8 h2, .int .u8 h3]), (9, .pointer (some ⟨b2, 0, none⟩)), (3, .int .u16 bye)] w28 (by kernel_rfl) ?_
            by_cases fk82 : (h1 % 4) = 2
            · skip
              refine J.head (.bool true) (congrArg Value.bool (beq_iff_eq.2 fk82)) ?_
              refine J.run 2 K7_163 [(17, .int .i64 (ansF (nextF q1) ([bye]))), (16, .slice (some ⟨b10, 0, none⟩) 1 1), (13, .pointer (some ⟨b9, 0, none⟩)), (41, .int .i64 1), (10, .int .i64 100000), (40, .agg #[.int .u8 h0, .int .u8 h1, .int .u8 h2, .int .u8 h3]), (9, .pointer (some ⟨b2, 0, none⟩)), (3, .int .u16 bye)] w28 (by kernel_rfl) ?_
              refine J.ok (OK.ldBox S30 1 114 31 0 (.agg #[.int .i64 (nextF q1), .int .i64 100000, .int .i64 e1, .bool true, .bool false]) (by kernel_rfl) rfl (by kernel_rfl)) ?_
              refine J.run 4 K7_164 [(118, .int .i64 (IntKind.wrap .i64 bye)), (116, .int .i64 120001), (114, .agg #[.int .i64 (nextF q1), .int .i64 100000, .int .i64 e1, .bool true, .bool false]), (17, .int .i64 (ansF (nextF q1) ([bye]))), (16, .slice (some ⟨b10, 0, none⟩) 1 1), (13, .pointer (some ⟨b9, 0, none⟩)), (41, .int .i64 1), (10, .int .i64 100000), (40, .agg #[.int .u8 h0, .int .u8 h1, .int .u8 h2, .int .u8 h3]), (9, .pointer (some ⟨b2, 0, none⟩)), (3, .int .u16 bye)] w28 (by kernel_rfl) ?_
              refine J.head (.int .i64 bye) (congrArg (Value.int .i64) (IntWalk.i64_in _ (by omega))) ?_
              refine J.run 1 K7_165 [(119, .int .i64 (IntKind.wrap .i64 (120001 + bye))), (114, .agg #[.int .i64 (nextF q1), .int .i64 100000, .int .i64 e1, .bool true, .bool false]), (17, .int .i64 (ansF (nextF q1) ([bye]))), (16, .slice (some ⟨b10, 0, none⟩) 1 1), (13, .pointer (some ⟨b9, 0, none⟩)), (41, .int .i64 1), (10, .int .i64 100000), (40, .agg #[.int .u8 h0, .int .u8 h1, .int .u8 h2, .int .u8 h3]), (9, .pointer (some ⟨b2, 0, none⟩)), (3, .int .u16 bye)] w28 (by kernel_rfl) ?_
              refine J.head (.int .i64 (120001 + bye)) (congrArg (Value.int .i64) (IntWalk.i64_in _ (by omega))) ?_
              refine J.run 2 K7_166 [(121, .slice (some ⟨b10, 0, none⟩) 1 1), (120, .int .i64 (ansF (nextF q1) ([bye]))), (119, .int .i64 (120001 + bye)), (114, .agg #[.int .i64 (nextF q1), .int .i64 100000, .int .i64 e1, .bool true, .bool false]), (13, .pointer (some ⟨b9, 0, none⟩)), (41, .int .i64 1), (10, .int .i64 100000), (40, .agg #[.int .u8 h0, .int .u8 h1, .int .u8 h2, .int .u8 h3]), (9, .pointer (some ⟨b2, 0, none⟩)), (3, .int .u16 bye)] w28 (by kernel_rfl) ?_
              have fk83 : (validB (nextF q1) 100000 e1 true false) = true := valid_of (by omega) (by omega) (.inl rfl) (by omega) (by first | rfl | assumption)
              have fk84 : (instantB (120001 + bye)) = true := instantB_iff.2 (by omega)
              have fk85 : (wordB (ansF (nextF q1) ([bye]))) = true := wordB_iff.2 (by omega)
              have fk86 : ¬ ((120001 + bye) < 100000) := by omega
              refine J.callF 122 18 #[.agg #[.int .i64 (nextF q1), .int .i64 100000, .int .i64 e1, .bool true, .bool false], .int .i64 (120001 + bye), .int .i64 (ansF (nextF q1) ([bye])), .slice (some ⟨b10, 0, none⟩) 1 1] hb18 (by kernel_rfl) (reply_any (nextF q1) 100000 e1 true false (120001 + bye) (ansF (nextF q1) ([bye])) (some ⟨b10, 0, none⟩) 1 1 ([bye]) _ ((box_ints [bye] (S30.nth 0 rfl) rfl 1 rfl)) (by omega)) ?_
              rintro _ w65 ⟨rfl, T24⟩
              have S85 : Sep w [box b10 [.int .i64 bye] 3, box b9 [.int .i64 (nextF q1), .int .i64 100000, .int .i64 e1, .bool true, .bool false] 31, box b8 [.int .i64 bye] 3, box b7 [.int .i64 q1, .int .i64 0, .int .i64 e1, .bool false, .bool f1] 31, box b2 [.int .i64 q1, .int .i64 0, .int .i64 e1, .bool false, .bool f1] 31, box b1 [.int .u8 h0, .int .u8 h1, .int .u8 h2, .int .u8 h3] 46] w65 := S30.trans T24
              clear T24 S30
              refine J.head (.tuple #[.agg #[.int .i64 (nextF q1), .int .i64 0, .int .i64 (endE e1 (replyR (nextF q1) 100000 (120001 + bye) (ansF (nextF q1) ([bye])) ([bye]))), .bool false, .bool ((endE e1 (replyR (nextF q1) 100000 (120001 + bye) (ansF (nextF q1) ([bye])) ([bye]))) == 7)], .int .i64 0]) (by first | (simp only [replyV, zeroQ, fk83, fk12, fk84, fk85, fk86, reduceCtorEq, ↓reduceIte]; done) | simp [replyV, zeroQ, fk83, fk12, fk84, fk85, fk86]) ?_
              refine J.head (.tuple #[.agg #[.int .i64 (nextF q1), .int .i64 0, .int .i64 (endE e1 false), .bool false, .bool ((endE e1 false) == 7)], .int .i64 0]) (by rw [show (replyR (nextF q1) 100000 (120001 + bye) (ansF (nextF q1) ([bye])) ([bye])) = false from by first | exact replyR_false (.inl (by omega)) | exact replyR_false (.inr (.inl (by omega))) | exact replyR_false (.inr (.inr (by omega)))]) ?_
              refine J.run 3 K7_167 [(124, .int .i64 0), (123, .agg #[.int .i64 (nextF q1), .int .i64 0, .int .i64 (endE e1 false), .bool false, .bool ((endE e1 false) == 7)]), (13, .pointer (some ⟨b9, 0, none⟩)), (41, .int .i64 1), (10, .int .i64 100000), (40, .agg #[.int .u8 h0, .int .u8 h1, .int .u8 h2, .int .u8 h3]), (9, .pointer (some ⟨b2, 0, none⟩)), (3, .int .u16 bye)] w65 (by kernel_rfl) ?_
              refine J.stBox S85 1 31 0 (.agg #[.int .i64 (nextF q1), .int .i64 0, .int .i64 (endE e1 false), .bool false, .bool ((endE e1 false) == 7)]) [.int .i64 (nextF q1), .int .i64 0, .int .i64 (endE e1 false), .bool false, .bool ((endE e1 false) == 7)] [box b10 [.int .i64 bye] 3, box b9 [.int .i64 (nextF q1), .int .i64 0, .int .i64 (endE e1 false), .bool false, .bool ((endE e1 false) == 7)] 31, box b8 [.int .i64 bye] 3, box b7 [.int .i64 q1, .int .i64 0, .int .i64 e1, .bool false, .bool f1] 31, box b2 [.int .i64 q1, .int .i64 0, .int .i64 e1, .bool false, .bool f1] 31, box b1 [.int .u8 h0, .int .u8 h1, .int .u8 h2, .int .u8 h3] 46] (by kernel_rfl) rfl (by kernel_rfl) (by kernel_rfl) rfl ?_
              intro w66 S86
              refine J.run 3 K7_52 [(13, .pointer (some ⟨b9, 0, none⟩)), (41, .int .i64 1), (10, .int .i64 100000), (40, .agg #[.int .u8 h0, .int .u8 h1, .int .u8 h2, .int .u8 h3]), (9, .pointer (some ⟨b2, 0, none⟩)), (3, .int .u16 bye), (19, .int .i64 0)] w66 (by kernel_rfl) ?_
              exact X3 (nextF q1) (endE e1 false) ((endE e1 false) == 7) w66 (by omega) (by omega) (rfl) S86
            · skip
              refine J.head (.bool false) (congrArg Value.bool (beq_eq_false_iff_ne.2 fk82)) ?_
              refine J.run 2 K7_168 [(13, .pointer (some ⟨b9, 0, none⟩)), (41, .int .i64 1), (10, .int .i64 100000), (40, .agg #[.int .u8 h0, .int .u8 h1, .int .u8 h2, .int .u8 h3]), (9, .pointer (some ⟨b2, 0, none⟩)), (3, .int .u16 bye)] w28 (by kernel_rfl) ?_
              refine J.ok (OK.ldBox S30 1 71 31 0 (.agg #[.int .i64 (nextF q1), .int .i64 100000, .int .i64 e1, .bool true, .bool false]) (by kernel_rfl) rfl (by kernel_rfl)) ?_
              refine J.run 4 K7_169 [(75, .int .i64 (IntKind.wrap .i64 bye)), (73, .int .i64 120001), (71, .agg #[.int .i64 (nextF q1), .int .i64 100000, .int .i64 e1, .bool true, .bool false]), (13, .pointer (some ⟨b9, 0, none⟩)), (41, .int .i64 1), (10, .int .i64 100000), (40, .agg #[.int .u8 h0, .int .u8 h1, .int .u8 h2, .int .u8 h3]), (9, .pointer (some ⟨b2, 0, none⟩)), (3, .int .u16 bye)] w28 (by kernel_rfl) ?_
              refine J.head (.int .i64 bye) (congrArg (Value.int .i64) (IntWalk.i64_in _ (by omega))) ?_
              refine J.run 1 K7_170 [(76, .int .i64 (IntKind.wrap .i64 (120001 + bye))), (71, .agg #[.int .i64 (nextF q1), .int .i64 100000, .int .i64 e1, .bool true, .bool false]), (13, .pointer (some ⟨b9, 0, none⟩)), (41, .int .i64 1), (10, .int .i64 100000), (40, .agg #[.int .u8 h0, .int .u8 h1, .int .u8 h2, .int .u8 h3]), (9, .pointer (some ⟨b2, 0, none⟩)), (3, .int .u16 bye)] w28 (by kernel_rfl) ?_
              refine J.head (.int .i64 (120001 + bye)) (congrArg (Value.int .i64) (IntWalk.i64_in _ (by omega))) ?_
              have fk87 : (validB (nextF q1) 100000 e1 true false) = true := valid_of (by omega) (by omega) (.inl rfl) (by omega) (by first | rfl | assumption)
              have fk88 : (instantB (120001 + bye)) = true := instantB_iff.2 (by omega)
              have fk89 : ¬ ((120001 + bye) < 100000) := by omega
              have fk90 : 20000 < ((120001 + bye) - 100000) := by omega
              refine J.callF 77 19 #[.agg #[.int .i64 (nextF q1), .int .i64 100000, .int .i64 e1, .bool true, .bool false], .int .i64 (120001 + bye)] hb19 (by kernel_rfl) (tick_any (nextF q1) 100000 e1 true false (120001 + bye) _) ?_
              rintro _ w67 ⟨rfl, T25⟩
              have S87 : Sep w [box b10 [.int .i64 bye] 3, box b9 [.int .i64 (nextF q1), .int .i64 100000, .int .i64 e1, .bool true, .bool false] 31, box b8 [.int .i64 bye] 3, box b7 [.int .i64 q1, .int .i64 0, .int .i64 e1, .bool false, .bool f1] 31, box b2 [.int .i64 q1, .int .i64 0, .int .i64 e1, .bool false, .bool f1] 31, box b1 [.int .u8 h0, .int .u8 h1, .int .u8 h2, .int .u8 h3] 46] w67 := S30.trans T25
              clear T25 S30
              refine J.head (.tuple #[.agg #[.int .i64 (nextF q1), .int .i64 0, .int .i64 (endE e1 false), .bool false, .bool ((endE e1 false) == 7)], .int .i64 0]) (by first | (simp only [tickV, zeroQ, fk87, fk88, fk89, fk90, reduceCtorEq, ↓reduceIte]; done) | simp [tickV, zeroQ, fk87, fk88, fk89, fk90]) ?_
              refine J.run 3 K7_171 [(79, .int .i64 0), (78, .agg #[.int .i64 (nextF q1), .int .i64 0, .int .i64 (endE e1 false), .bool false, .bool ((endE e1 false) == 7)]), (13, .pointer (some ⟨b9, 0, none⟩)), (41, .int .i64 1), (10, .int .i64 100000), (40, .agg #[.int .u8 h0, .int .u8 h1, .int .u8 h2, .int .u8 h3]), (9, .pointer (some ⟨b2, 0, none⟩)), (3, .int .u16 bye)] w67 (by kernel_rfl) ?_
              refine J.stBox S87 1 31 0 (.agg #[.int .i64 (nextF q1), .int .i64 0, .int .i64 (endE e1 false), .bool false, .bool ((endE e1 false) == 7)]) [.int .i64 (nextF q1), .int .i64 0, .int .i64 (endE e1 false), .bool false, .bool ((endE e1 false) == 7)] [box b10 [.int .i64 bye] 3, box b9 [.int .i64 (nextF q1), .int .i64 0, .int .i64 (endE e1 false), .bool false, .bool ((endE e1 false) == 7)] 31, box b8 [.int .i64 bye] 3, box b7 [.int .i64 q1, .int .i64 0, .int .i64 e1, .bool false, .bool f1] 31, box b2 [.int .i64 q1, .int .i64 0, .int .i64 e1, .bool false, .bool f1] 31, box b1 [.int .u8 h0, .int .u8 h1, .int .u8 h2, .int .u8 h3] 46] (by kernel_rfl) rfl (by kernel_rfl) (by kernel_rfl) rfl ?_
              intro w68 S88
              refine J.run 3 K7_52 [(13, .pointer (some ⟨b9, 0, none⟩)), (41, .int .i64 1), (10, .int .i64 100000), (40, .agg #[.int .u8 h0, .int .u8 h1, .int .u8 h2, .int .u8 h3]), (9, .pointer (some ⟨b2, 0, none⟩)), (3, .int .u16 bye), (19, .int .i64 0)] w68 (by kernel_rfl) ?_
              exact X3 (nextF q1) (endE e1 false) ((endE e1 false) == 7) w68 (by omega) (by omega) (rfl) S88
    refine J.run 6 K7_172 [(80, .bool ((h0 % 4) == 0)), (69, .int .u8 (h0 % 4)), (17, .int .i64 (ansF (nextF seed) ([bye]))), (16, .slice (some ⟨b8, 0, none⟩) 1 1), (13, .pointer (some ⟨b7, 0, none⟩)), (41, .int .i64 0), (40, .agg #[.int .u8 h0, .int .u8 h1, .int .u8 h2, .int .u8 h3]), (10, .int .i64 0), (9, .pointer (some ⟨b2, 0, none⟩)), (3, .int .u16 bye)] w21 (by kernel_rfl) ?_
    by_cases fk91 : (h0 % 4) = 0
    · skip
      refine J.head (.bool true) (congrArg Value.bool (beq_iff_eq.2 fk91)) ?_
      refine J.run 2 K7_173 [(17, .int .i64 (ansF (nextF seed) ([bye]))), (16, .slice (some ⟨b8, 0, none⟩) 1 1), (13, .pointer (some ⟨b7, 0, none⟩)), (41, .int .i64 0), (40, .agg #[.int .u8 h0, .int .u8 h1, .int .u8 h2, .int .u8 h3]), (10, .int .i64 0), (9, .pointer (some ⟨b2, 0, none⟩)), (3, .int .u16 bye)] w21 (by kernel_rfl) ?_
      refine J.ok (OK.ldBox S21 1 83 31 0 (.agg #[.int .i64 (nextF seed), .int .i64 0, .int .i64 (errors % 7), .bool true, .bool false]) (by kernel_rfl) rfl (by kernel_rfl)) ?_
      refine J.run 4 K7_174 [(87, .int .i64 (IntKind.wrap .i64 ((ansF (nextF seed) ([bye])) + 1))), (85, .int .i64 15000), (83, .agg #[.int .i64 (nextF seed), .int .i64 0, .int .i64 (errors % 7), .bool true, .bool false]), (16, .slice (some ⟨b8, 0, none⟩) 1 1), (13, .pointer (some ⟨b7, 0, none⟩)), (41, .int .i64 0), (40, .agg #[.int .u8 h0, .int .u8 h1, .int .u8 h2, .int .u8 h3]), (10, .int .i64 0), (9, .pointer (some ⟨b2, 0, none⟩)), (3, .int .u16 bye)] w21 (by kernel_rfl) ?_
      refine J.head (.int .i64 ((ansF (nextF seed) ([bye])) + 1)) (congrArg (Value.int .i64) (IntWalk.i64_in _ (by omega))) ?_
      refine J.run 2 K7_175 [(89, .int .i64 (IntKind.wrap .i64 bye)), (87, .int .i64 ((ansF (nextF seed) ([bye])) + 1)), (85, .int .i64 15000), (83, .agg #[.int .i64 (nextF seed), .int .i64 0, .int .i64 (errors % 7), .bool true, .bool false]), (16, .slice (some ⟨b8, 0, none⟩) 1 1), (13, .pointer (some ⟨b7, 0, none⟩)), (41, .int .i64 0), (40, .agg #[.int .u8 h0, .int .u8 h1, .int .u8 h2, .int .u8 h3]), (10, .int .i64 0), (9, .pointer (some ⟨b2, 0, none⟩)), (3, .int .u16 bye)] w21 (by kernel_rfl) ?_
      refine J.head (.int .i64 bye) (congrArg (Value.int .i64) (IntWalk.i64_in _ (by omega))) ?_
      refine J.run 1 K7_176 [(90, .int .i64 (Int.tmod bye 65535)), (87, .int .i64 ((ansF (nextF seed) ([bye])) + 1)), (85, .int .i64 15000), (83, .agg #[.int .i64 (nextF seed), .int .i64 0, .int .i64 (errors % 7), .bool true, .bool false]), (16, .slice (some ⟨b8, 0, none⟩) 1 1), (13, .pointer (some ⟨b7, 0, none⟩)), (41, .int .i64 0), (40, .agg #[.int .u8 h0, .int .u8 h1, .int .u8 h2, .int .u8 h3]), (10, .int .i64 0), (9, .pointer (some ⟨b2, 0, none⟩)), (3, .int .u16 bye)] w21 (by kernel_rfl) ?_
      refine J.head (.int .i64 (bye % 65535)) (congrArg (Value.int .i64) (IntWalk.rem_in _ _ (by omega))) ?_
      refine J.run 1 K7_177 [(91, .int .i64 (IntKind.wrap .i64 (((ansF (nextF seed) ([bye])) + 1) + (bye % 65535)))), (85, .int .i64 15000), (83, .agg #[.int .i64 (nextF seed), .int .i64 0, .int .i64 (errors % 7), .bool true, .bool false]), (16, .slice (some ⟨b8, 0, none⟩) 1 1), (13, .pointer (some ⟨b7, 0, none⟩)), (41, .int .i64 0), (40, .agg #[.int .u8 h0, .int .u8 h1, .int .u8 h2, .int .u8 h3]), (10, .int .i64 0), (9, .pointer (some ⟨b2, 0, none⟩)), (3, .int .u16 bye)] w21 (by kernel_rfl) ?_
      refine J.head (.int .i64 (((ansF (nextF seed) ([bye])) + 1) + (bye % 65535))) (congrArg (Value.int .i64) (IntWalk.i64_in _ (by omega))) ?_
      refine J.run 1 K7_178 [(92, .int .i64 (Int.tmod (((ansF (nextF seed) ([bye])) + 1) + (bye % 65535)) 65536)), (85, .int .i64 15000), (83, .agg #[.int .i64 (nextF seed), .int .i64 0, .int .i64 (errors % 7), .bool true, .bool false]), (16, .slice (some ⟨b8, 0, none⟩) 1 1), (13, .pointer (some ⟨b7, 0, none⟩)), (41, .int .i64 0), (40, .agg #[.int .u8 h0, .int .u8 h1, .int .u8 h2, .int .u8 h3]), (10, .int .i64 0), (9, .pointer (some ⟨b2, 0, none⟩)), (3, .int .u16 bye)] w21 (by kernel_rfl) ?_
      refine J.head (.int .i64 ((((ansF (nextF seed) ([bye])) + 1) + (bye % 65535)) % 65536)) (congrArg (Value.int .i64) (IntWalk.rem_in _ _ (by omega))) ?_
      refine J.run 1 K7_179 [(93, .slice (some ⟨b8, 0, none⟩) 1 1), (92, .int .i64 ((((ansF (nextF seed) ([bye])) + 1) + (bye % 65535)) % 65536)), (85, .int .i64 15000), (83, .agg #[.int .i64 (nextF seed), .int .i64 0, .int .i64 (errors % 7), .bool true, .bool false]), (13, .pointer (some ⟨b7, 0, none⟩)), (41, .int .i64 0), (40, .agg #[.int .u8 h0, .int .u8 h1, .int .u8 h2, .int .u8 h3]), (10, .int .i64 0), (9, .pointer (some ⟨b2, 0, none⟩)), (3, .int .u16 bye)] w21 (by kernel_rfl) ?_
      have fk92 : (validB (nextF seed) 0 (errors % 7) true false) = true := valid_of (by omega) (by omega) (.inl rfl) (by omega) (by first | rfl | assumption)
      have fk93 : (instantB 15000) = true := instantB_iff.2 (by omega)
      have fk94 : (wordB ((((ansF (nextF seed) ([bye])) + 1) + (bye % 65535)) % 65536)) = true := wordB_iff.2 (by omega)
      have fk95 : ¬ (15000 < 0) := by omega
      refine J.callF 94 18 #[.agg #[.int .i64 (nextF seed), .int .i64 0, .int .i64 (errors % 7), .bool true, .bool false], .int .i64 15000, .int .i64 ((((ansF (nextF seed) ([bye])) + 1) + (bye % 65535)) % 65536), .slice (some ⟨b8, 0, none⟩) 1 1] hb18 (by kernel_rfl) (reply_any (nextF seed) 0 (errors % 7) true false 15000 ((((ansF (nextF seed) ([bye])) + 1) + (bye % 65535)) % 65536) (some ⟨b8, 0, none⟩) 1 1 ([bye]) _ ((box_ints [bye] (S21.nth 0 rfl) rfl 1 rfl)) (by omega)) ?_
      rintro _ w69 ⟨rfl, T26⟩
      have S89 : Sep w [box b8 [.int .i64 bye] 3, box b7 [.int .i64 (nextF seed), .int .i64 0, .int .i64 (errors % 7), .bool true, .bool false] 31, box b2 [.int .i64 seed, .int .i64 0, .int .i64 (errors % 7), .bool false, .bool false] 31, box b1 [.int .u8 h0, .int .u8 h1, .int .u8 h2, .int .u8 h3] 46] w69 := S21.trans T26
      clear T26 S21
      refine J.head (.tuple #[.agg #[.int .i64 (nextF seed), .int .i64 0, .int .i64 (endE (errors % 7) (replyR (nextF seed) 0 15000 ((((ansF (nextF seed) ([bye])) + 1) + (bye % 65535)) % 65536) ([bye]))), .bool false, .bool ((endE (errors % 7) (replyR (nextF seed) 0 15000 ((((ansF (nextF seed) ([bye])) + 1) + (bye % 65535)) % 65536) ([bye]))) == 7)], .int .i64 0]) (by first | (simp only [replyV, zeroQ, fk92, fk12, fk93, fk94, fk95, reduceCtorEq, ↓reduceIte]; done) | simp [replyV, zeroQ, fk92, fk12, fk93, fk94, fk95]) ?_
      refine J.head (.tuple #[.agg #[.int .i64 (nextF seed), .int .i64 0, .int .i64 (endE (errors % 7) false), .bool false, .bool ((endE (errors % 7) false) == 7)], .int .i64 0]) (by rw [show (replyR (nextF seed) 0 15000 ((((ansF (nextF seed) ([bye])) + 1) + (bye % 65535)) % 65536) ([bye])) = false from by first | exact replyR_false (.inl (by omega)) | exact replyR_false (.inr (.inl (by omega))) | exact replyR_false (.inr (.inr (by omega)))]) ?_
      refine J.run 3 K7_180 [(96, .int .i64 0), (95, .agg #[.int .i64 (nextF seed), .int .i64 0, .int .i64 (endE (errors % 7) false), .bool false, .bool ((endE (errors % 7) false) == 7)]), (13, .pointer (some ⟨b7, 0, none⟩)), (41, .int .i64 0), (40, .agg #[.int .u8 h0, .int .u8 h1, .int .u8 h2, .int .u8 h3]), (10, .int .i64 0), (9, .pointer (some ⟨b2, 0, none⟩)), (3, .int .u16 bye)] w69 (by kernel_rfl) ?_
      refine J.stBox S89 1 31 0 (.agg #[.int .i64 (nextF seed), .int .i64 0, .int .i64 (endE (errors % 7) false), .bool false, .bool ((endE (errors % 7) false) == 7)]) [.int .i64 (nextF seed), .int .i64 0, .int .i64 (endE (errors % 7) false), .bool false, .bool ((endE (errors % 7) false) == 7)] [box b8 [.int .i64 bye] 3, box b7 [.int .i64 (nextF seed), .int .i64 0, .int .i64 (endE (errors % 7) false), .bool false, .bool ((endE (errors % 7) false) == 7)] 31, box b2 [.int .i64 seed, .int .i64 0, .int .i64 (errors % 7), .bool false, .bool false] 31, box b1 [.int .u8 h0, .int .u8 h1, .int .u8 h2, .int .u8 h3] 46] (by kernel_rfl) rfl (by kernel_rfl) (by kernel_rfl) rfl ?_
      intro w70 S90
      refine J.run 3 K7_35 [(13, .pointer (some ⟨b7, 0, none⟩)), (41, .int .i64 0), (40, .agg #[.int .u8 h0, .int .u8 h1, .int .u8 h2, .int .u8 h3]), (10, .int .i64 0), (9, .pointer (some ⟨b2, 0, none⟩)), (3, .int .u16 bye), (19, .int .i64 0)] w70 (by kernel_rfl) ?_
      exact X2 (nextF seed) (endE (errors % 7) false) ((endE (errors % 7) false) == 7) w70 (by omega) (by omega) (rfl) S90
    · skip
      refine J.head (.bool false) (congrArg Value.bool (beq_eq_false_iff_ne.2 fk91)) ?_
      refine J.run 6 K7_181 [(97, .bool ((h0 % 4) == 1)), (69, .int .u8 (h0 % 4)), (17, .int .i64 (ansF (nextF seed) ([bye]))), (16, .slice (some ⟨b8, 0, none⟩) 1 1), (13, .pointer (some ⟨b7, 0, none⟩)), (41, .int .i64 0), (40, .agg #[.int .u8 h0, .int .u8 h1, .int .u8 h2, .int .u8 h3]), (10, .int .i64 0), (9, .pointer (some ⟨b2, 0, none⟩)), (3, .int .u16 bye)] w21 (by kernel_rfl) ?_
      by_cases fk96 : (h0 % 4) = 1
      · skip
        refine J.head (.bool true) (congrArg Value.bool (beq_iff_eq.2 fk96)) ?_
        refine J.run 2 K7_182 [(17, .int .i64 (ansF (nextF seed) ([bye]))), (16, .slice (some ⟨b8, 0, none⟩) 1 1), (13, .pointer (some ⟨b7, 0, none⟩)), (41, .int .i64 0), (40, .agg #[.int .u8 h0, .int .u8 h1, .int .u8 h2, .int .u8 h3]), (10, .int .i64 0), (9, .pointer (some ⟨b2, 0, none⟩)), (3, .int .u16 bye)] w21 (by kernel_rfl) ?_
        refine J.ok (OK.ldBox S21 1 100 31 0 (.agg #[.int .i64 (nextF seed), .int .i64 0, .int .i64 (errors % 7), .bool true, .bool false]) (by kernel_rfl) rfl (by kernel_rfl)) ?_
        refine J.run 3 K7_183 [(103, .int .i64 (IntKind.wrap .i64 bye)), (101, .int .i64 0), (100, .agg #[.int .i64 (nextF seed), .int .i64 0, .int .i64 (errors % 7), .bool true, .bool false]), (17, .int .i64 (ansF (nextF seed) ([bye]))), (16, .slice (some ⟨b8, 0, none⟩) 1 1), (13, .pointer (some ⟨b7, 0, none⟩)), (41, .int .i64 0), (40, .agg #[.int .u8 h0, .int .u8 h1, .int .u8 h2, .int .u8 h3]), (10, .int .i64 0), (9, .pointer (some ⟨b2, 0, none⟩)), (3, .int .u16 bye)] w21 (by kernel_rfl) ?_
        refine J.head (.int .i64 bye) (congrArg (Value.int .i64) (IntWalk.i64_in _ (by omega))) ?_
        refine J.run 1 K7_184 [(104, .int .i64 (Int.tmod bye 10000)), (101, .int .i64 0), (100, .agg #[.int .i64 (nextF seed), .int .i64 0, .int .i64 (errors % 7), .bool true, .bool false]), (17, .int .i64 (ansF (nextF seed) ([bye]))), (16, .slice (some ⟨b8, 0, none⟩) 1 1), (13, .pointer (some ⟨b7, 0, none⟩)), (41, .int .i64 0), (40, .agg #[.int .u8 h0, .int .u8 h1, .int .u8 h2, .int .u8 h3]), (10, .int .i64 0), (9, .pointer (some ⟨b2, 0, none⟩)), (3, .int .u16 bye)] w21 (by kernel_rfl) ?_
        refine J.head (.int .i64 (bye % 10000)) (congrArg (Value.int .i64) (IntWalk.rem_in _ _ (by omega))) ?_
        refine J.run 1 K7_185 [(105, .int .i64 (IntKind.wrap .i64 (0 + (bye % 10000)))), (100, .agg #[.int .i64 (nextF seed), .int .i64 0, .int .i64 (errors % 7), .bool true, .bool false]), (17, .int .i64 (ansF (nextF seed) ([bye]))), (16, .slice (some ⟨b8, 0, none⟩) 1 1), (13, .pointer (some ⟨b7, 0, none⟩)), (41, .int .i64 0), (40, .agg #[.int .u8 h0, .int .u8 h1, .int .u8 h2, .int .u8 h3]), (10, .int .i64 0), (9, .pointer (some ⟨b2, 0, none⟩)), (3, .int .u16 bye)] w21 (by kernel_rfl) ?_
        refine J.head (.int .i64 (0 + (bye % 10000))) (congrArg (Value.int .i64) (IntWalk.i64_in _ (by omega))) ?_
        refine J.run 2 K7_186 [(107, .slice (some ⟨b8, 0, none⟩) 1 1), (106, .int .i64 (ansF (nextF seed) ([bye]))), (105, .int .i64 (0 + (bye % 10000))), (100, .agg #[.int .i64 (nextF seed), .int .i64 0, .int .i64 (errors % 7), .bool true, .bool false]), (13, .pointer (some ⟨b7, 0, none⟩)), (41, .int .i64 0), (40, .agg #[.int .u8 h0, .int .u8 h1, .int .u8 h2, .int .u8 h3]), (10, .int .i64 0), (9, .pointer (some ⟨b2, 0, none⟩)), (3, .int .u16 bye)] w21 (by kernel_rfl) ?_
        have fk97 : (validB (nextF seed) 0 (errors % 7) true false) = true := valid_of (by omega) (by omega) (.inl rfl) (by omega) (by first | rfl | assumption)
        have fk98 : (instantB (0 + (bye % 10000))) = true := instantB_iff.2 (by omega)
        have fk99 : (wordB (ansF (nextF seed) ([bye]))) = true := wordB_iff.2 (by omega)
        have fk100 : ¬ ((0 + (bye % 10000)) < 0) := by omega
        refine J.callF 108 18 #[.agg #[.int .i64 (nextF seed), .int .i64 0, .int .i64 (errors % 7), .bool true, .bool false], .int .i64 (0 + (bye % 10000)), .int .i64 (ansF (nextF seed) ([bye])), .slice (some ⟨b8, 0, none⟩) 1 1] hb18 (by kernel_rfl) (reply_any (nextF seed) 0 (errors % 7) true false (0 + (bye % 10000)) (ansF (nextF seed) ([bye])) (some ⟨b8, 0, none⟩) 1 1 ([bye]) _ ((box_ints [bye] (S21.nth 0 rfl) rfl 1 rfl)) (by omega)) ?_
        rintro _ w71 ⟨rfl, T27⟩
        have S91 : Sep w [box b8 [.int .i64 bye] 3, box b7 [.int .i64 (nextF seed), .int .i64 0, .int .i64 (errors % 7), .bool true, .bool false] 31, box b2 [.int .i64 seed, .int .i64 0, .int .i64 (errors % 7), .bool false, .bool false] 31, box b1 [.int .u8 h0, .int .u8 h1, .int .u8 h2, .int .u8 h3] 46] w71 := S21.trans T27
        clear T27 S21
        refine J.head (.tuple #[.agg #[.int .i64 (nextF seed), .int .i64 0, .int .i64 (endE (errors % 7) (replyR (nextF seed) 0 (0 + (bye % 10000)) (ansF (nextF seed) ([bye])) ([bye]))), .bool false, .bool ((endE (errors % 7) (replyR (nextF seed) 0 (0 + (bye % 10000)) (ansF (nextF seed) ([bye])) ([bye]))) == 7)], .int .i64 0]) (by first | (simp only [replyV, zeroQ, fk97, fk12, fk98, fk99, fk100, reduceCtorEq, ↓reduceIte]; done) | simp [replyV, zeroQ, fk97, fk12, fk98, fk99, fk100]) ?_
        refine J.head (.tuple #[.agg #[.int .i64 (nextF seed), .int .i64 0, .int .i64 (endE (errors % 7) false), .bool false, .bool ((endE (errors % 7) false) == 7)], .int .i64 0]) (by rw [show (replyR (nextF seed) 0 (0 + (bye % 10000)) (ansF (nextF seed) ([bye])) ([bye])) = false from by first | exact replyR_false (.inl (by omega)) | exact replyR_false (.inr (.inl (by omega))) | exact replyR_false (.inr (.inr (by omega)))]) ?_
        refine J.run 3 K7_187 [(110, .int .i64 0), (109, .agg #[.int .i64 (nextF seed), .int .i64 0, .int .i64 (endE (errors % 7) false), .bool false, .bool ((endE (errors % 7) false) == 7)]), (13, .pointer (some ⟨b7, 0, none⟩)), (41, .int .i64 0), (40, .agg #[.int .u8 h0, .int .u8 h1, .int .u8 h2, .int .u8 h3]), (10, .int .i64 0), (9, .pointer (some ⟨b2, 0, none⟩)), (3, .int .u16 bye)] w71 (by kernel_rfl) ?_
        refine J.stBox S91 1 31 0 (.agg #[.int .i64 (nextF seed), .int .i64 0, .int .i64 (endE (errors % 7) false), .bool false, .bool ((endE (errors % 7) false) == 7)]) [.int .i64 (nextF seed), .int .i64 0, .int .i64 (endE (errors % 7) false), .bool false, .bool ((endE (errors % 7) false) == 7)] [box b8 [.int .i64 bye] 3, box b7 [.int .i64 (nextF seed), .int .i64 0, .int .i64 (endE (errors % 7) false), .bool false, .bool ((endE (errors % 7) false) == 7)] 31, box b2 [.int .i64 seed, .int .i64 0, .int .i64 (errors % 7), .bool false, .bool false] 31, box b1 [.int .u8 h0, .int .u8 h1, .int .u8 h2, .int .u8 h3] 46] (by kernel_rfl) rfl (by kernel_rfl) (by kernel_rfl) rfl ?_
        intro w72 S92
        refine J.run 3 K7_35 [(13, .pointer (some ⟨b7, 0, none⟩)), (41, .int .i64 0), (40, .agg #[.int .u8 h0, .int .u8 h1, .int .u8 h2, .int .u8 h3]), (10, .int .i64 0), (9, .pointer (some ⟨b2, 0, none⟩)), (3, .int .u16 bye), (19, .int .i64 0)] w72 (by kernel_rfl) ?_
        exact X2 (nextF seed) (endE (errors % 7) false) ((endE (errors % 7) false) == 7) w72 (by omega) (by omega) (rfl) S92
      · skip
        refine J.head (.bool false) (congrArg Value.bool (beq_eq_false_iff_ne.2 fk96)) ?_
        refine J.run 6 K7_188 [(111, .bool ((h0 % 4) == 2)), (17, .int .i64 (ansF (nextF seed) ([bye]))), (16, .slice (some ⟨b8, 0, none⟩) 1 1), (13, .pointer (some ⟨b7, 0, none⟩)), (41, .int .i64 0), (40, .agg #[.int .u8 h0, .int .u8 h1, .int .u8 h2, .int .u8 h3]), (10, .int .i64 0), (9, .pointer (some ⟨b2, 0, none⟩)), (3, .int .u16 bye)] w21 (by kernel_rfl) ?_
        by_cases fk101 : (h0 % 4) = 2
        · skip
          refine J.head (.bool true) (congrArg Value.bool (beq_iff_eq.2 fk101)) ?_
          refine J.run 2 K7_189 [(17, .int .i64 (ansF (nextF seed) ([bye]))), (16, .slice (some ⟨b8, 0, none⟩) 1 1), (13, .pointer (some ⟨b7, 0, none⟩)), (41, .int .i64 0), (40, .agg #[.int .u8 h0, .int .u8 h1, .int .u8 h2, .int .u8 h3]), (10, .int .i64 0), (9, .pointer (some ⟨b2, 0, none⟩)), (3, .int .u16 bye)] w21 (by kernel_rfl) ?_
          refine J.ok (OK.ldBox S21 1 114 31 0 (.agg #[.int .i64 (nextF seed), .int .i64 0, .int .i64 (errors % 7), .bool true, .bool false]) (by kernel_rfl) rfl (by kernel_rfl)) ?_
          refine J.run 4 K7_190 [(118, .int .i64 (IntKind.wrap .i64 bye)), (116, .int .i64 20001), (114, .agg #[.int .i64 (nextF seed), .int .i64 0, .int .i64 (errors % 7), .bool true, .bool false]), (17, .int .i64 (ansF (nextF seed) ([bye]))), (16, .slice (some ⟨b8, 0, none⟩) 1 1), (13, .pointer (some ⟨b7, 0, none⟩)), (41, .int .i64 0), (40, .agg #[.int .u8 h0, .int .u8 h1, .int .u8 h2, .int .u8 h3]), (10, .int .i64 0), (9, .pointer (some ⟨b2, 0, none⟩)), (3, .int .u16 bye)] w21 (by kernel_rfl) ?_
          refine J.head (.int .i64 bye) (congrArg (Value.int .i64) (IntWalk.i64_in _ (by omega))) ?_
          refine J.run 1 K7_191 [(119, .int .i64 (IntKind.wrap .i64 (20001 + bye))), (114, .agg #[.int .i64 (nextF seed), .int .i64 0, .int .i64 (errors % 7), .bool true, .bool false]), (17, .int .i64 (ansF (nextF seed) ([bye]))), (16, .slice (some ⟨b8, 0, none⟩) 1 1), (13, .pointer (some ⟨b7, 0, none⟩)), (41, .int .i64 0), (40, .agg #[.int .u8 h0, .int .u8 h1, .int .u8 h2, .int .u8 h3]), (10, .int .i64 0), (9, .pointer (some ⟨b2, 0, none⟩)), (3, .int .u16 bye)] w21 (by kernel_rfl) ?_
          refine J.head (.int .i64 (20001 + bye)) (congrArg (Value.int .i64) (IntWalk.i64_in _ (by omega))) ?_
          refine J.run 2 K7_192 [(121, .slice (some ⟨b8, 0, none⟩) 1 1), (120, .int .i64 (ansF (nextF seed) ([bye]))), (119, .int .i64 (20001 + bye)), (114, .agg #[.int .i64 (nextF seed), .int .i64 0, .int .i64 (errors % 7), .bool true, .bool false]), (13, .pointer (some ⟨b7, 0, none⟩)), (41, .int .i64 0), (40, .agg #[.int .u8 h0, .int .u8 h1, .int .u8 h2, .int .u8 h3]), (10, .int .i64 0), (9, .pointer (some ⟨b2, 0, none⟩)), (3, .int .u16 bye)] w21 (by kernel_rfl) ?_
          have fk102 : (validB (nextF seed) 0 (errors % 7) true false) = true := valid_of (by omega) (by omega) (.inl rfl) (by omega) (by first | rfl | assumption)
          have fk103 : (instantB (20001 + bye)) = true := instantB_iff.2 (by omega)
          have fk104 : (wordB (ansF (nextF seed) ([bye]))) = true := wordB_iff.2 (by omega)
          have fk105 : ¬ ((20001 + bye) < 0) := by omega
          refine J.callF 122 18 #[.agg #[.int .i64 (nextF seed), .int .i64 0, .int .i64 (errors % 7), .bool true, .bool false], .int .i64 (20001 + bye), .int .i64 (ansF (nextF seed) ([bye])), .slice (some ⟨b8, 0, none⟩) 1 1] hb18 (by kernel_rfl) (reply_any (nextF seed) 0 (errors % 7) true false (20001 + bye) (ansF (nextF seed) ([bye])) (some ⟨b8, 0, none⟩) 1 1 ([bye]) _ ((box_ints [bye] (S21.nth 0 rfl) rfl 1 rfl)) (by omega)) ?_
          rintro _ w73 ⟨rfl, T28⟩
          have S93 : Sep w [box b8 [.int .i64 bye] 3, box b7 [.int .i64 (nextF seed), .int .i64 0, .int .i64 (errors % 7), .bool true, .bool false] 31, box b2 [.int .i64 seed, .int .i64 0, .int .i64 (errors % 7), .bool false, .bool false] 31, box b1 [.int .u8 h0, .int .u8 h1, .int .u8 h2, .int .u8 h3] 46] w73 := S21.trans T28
          clear T28 S21
          refine J.head (.tuple #[.agg #[.int .i64 (nextF seed), .int .i64 0, .int .i64 (endE (errors % 7) (replyR (nextF seed) 0 (20001 + bye) (ansF (nextF seed) ([bye])) ([bye]))), .bool false, .bool ((endE (errors % 7) (replyR (nextF seed) 0 (20001 + bye) (ansF (nextF seed) ([bye])) ([bye]))) == 7)], .int .i64 0]) (by first | (simp only [replyV, zeroQ, fk102, fk12, fk103, fk104, fk105, reduceCtorEq, ↓reduceIte]; done) | simp [replyV, zeroQ, fk102, fk12, fk103, fk104, fk105]) ?_
          refine J.head (.tuple #[.agg #[.int .i64 (nextF seed), .int .i64 0, .int .i64 (endE (errors % 7) false), .bool false, .bool ((endE (errors % 7) false) == 7)], .int .i64 0]) (by rw [show (replyR (nextF seed) 0 (20001 + bye) (ansF (nextF seed) ([bye])) ([bye])) = false from by first | exact replyR_false (.inl (by omega)) | exact replyR_false (.inr (.inl (by omega))) | exact replyR_false (.inr (.inr (by omega)))]) ?_
          refine J.run 3 K7_193 [(124, .int .i64 0), (123, .agg #[.int .i64 (nextF seed), .int .i64 0, .int .i64 (endE (errors % 7) false), .bool false, .bool ((endE (errors % 7) false) == 7)]), (13, .pointer (some ⟨b7, 0, none⟩)), (41, .int .i64 0), (40, .agg #[.int .u8 h0, .int .u8 h1, .int .u8 h2, .int .u8 h3]), (10, .int .i64 0), (9, .pointer (some ⟨b2, 0, none⟩)), (3, .int .u16 bye)] w73 (by kernel_rfl) ?_
          refine J.stBox S93 1 31 0 (.agg #[.int .i64 (nextF seed), .int .i64 0, .int .i64 (endE (errors % 7) false), .bool false, .bool ((endE (errors % 7) false) == 7)]) [.int .i64 (nextF seed), .int .i64 0, .int .i64 (endE (errors % 7) false), .bool false, .bool ((endE (errors % 7) false) == 7)] [box b8 [.int .i64 bye] 3, box b7 [.int .i64 (nextF seed), .int .i64 0, .int .i64 (endE (errors % 7) false), .bool false, .bool ((endE (errors % 7) false) == 7)] 31, box b2 [.int .i64 seed, .int .i64 0, .int .i64 (errors % 7), .bool false, .bool false] 31, box b1 [.int .u8 h0, .int .u8 h1, .int .u8 h2, .int .u8 h3] 46] (by kernel_rfl) rfl (by kernel_rfl) (by kernel_rfl) rfl ?_
          intro w74 S94
          refine J.run 3 K7_35 [(13, .pointer (some ⟨b7, 0, none⟩)), (41, .int .i64 0), (40, .agg #[.int .u8 h0, .int .u8 h1, .int .u8 h2, .int .u8 h3]), (10, .int .i64 0), (9, .pointer (some ⟨b2, 0, none⟩)), (3, .int .u16 bye), (19, .int .i64 0)] w74 (by kernel_rfl) ?_
          exact X2 (nextF seed) (endE (errors % 7) false) ((endE (errors % 7) false) == 7) w74 (by omega) (by omega) (rfl) S94
        · skip
          refine J.head (.bool false) (congrArg Value.bool (beq_eq_false_iff_ne.2 fk101)) ?_
          refine J.run 2 K7_194 [(13, .pointer (some ⟨b7, 0, none⟩)), (41, .int .i64 0), (40, .agg #[.int .u8 h0, .int .u8 h1, .int .u8 h2, .int .u8 h3]), (10, .int .i64 0), (9, .pointer (some ⟨b2, 0, none⟩)), (3, .int .u16 bye)] w21 (by kernel_rfl) ?_
          refine J.ok (OK.ldBox S21 1 71 31 0 (.agg #[.int .i64 (nextF seed), .int .i64 0, .int .i64 (errors % 7), .bool true, .bool false]) (by kernel_rfl) rfl (by kernel_rfl)) ?_
          refine J.run 4 K7_195 [(75, .int .i64 (IntKind.wrap .i64 bye)), (73, .int .i64 20001), (71, .agg #[.int .i64 (nextF seed), .int .i64 0, .int .i64 (errors % 7), .bool true, .bool false]), (13, .pointer (some ⟨b7, 0, none⟩)), (41, .int .i64 0), (40, .agg #[.int .u8 h0, .int .u8 h1, .int .u8 h2, .int .u8 h3]), (10, .int .i64 0), (9, .pointer (some ⟨b2, 0, none⟩)), (3, .int .u16 bye)] w21 (by kernel_rfl) ?_
          refine J.head (.int .i64 bye) (congrArg (Value.int .i64) (IntWalk.i64_in _ (by omega))) ?_
          refine J.run 1 K7_196 [(76, .int .i64 (IntKind.wrap .i64 (20001 + bye))), (71, .agg #[.int .i64 (nextF seed), .int .i64 0, .int .i64 (errors % 7), .bool true, .bool false]), (13, .pointer (some ⟨b7, 0, none⟩)), (41, .int .i64 0), (40, .agg #[.int .u8 h0, .int .u8 h1, .int .u8 h2, .int .u8 h3]), (10, .int .i64 0), (9, .pointer (some ⟨b2, 0, none⟩)), (3, .int .u16 bye)] w21 (by kernel_rfl) ?_
          refine J.head (.int .i64 (20001 + bye)) (congrArg (Value.int .i64) (IntWalk.i64_in _ (by omega))) ?_
          have fk106 : (validB (nextF seed) 0 (errors % 7) true false) = true := valid_of (by omega) (by omega) (.inl rfl) (by omega) (by first | rfl | assumption)
          have fk107 : (instantB (20001 + bye)) = true := instantB_iff.2 (by omega)
          have fk108 : ¬ ((20001 + bye) < 0) := by omega
          have fk109 : 20000 < ((20001 + bye) - 0) := by omega
          refine J.callF 77 19 #[.agg #[.int .i64 (nextF seed), .int .i64 0, .int .i64 (errors % 7), .bool true, .bool false], .int .i64 (20001 + bye)] hb19 (by kernel_rfl) (tick_any (nextF seed) 0 (errors % 7) true false (20001 + bye) _) ?_
          rintro _ w75 ⟨rfl, T29⟩
          have S95 : Sep w [box b8 [.int .i64 bye] 3, box b7 [.int .i64 (nextF seed), .int .i64 0, .int .i64 (errors % 7), .bool true, .bool false] 31, box b2 [.int .i64 seed, .int .i64 0, .int .i64 (errors % 7), .bool false, .bool false] 31, box b1 [.int .u8 h0, .int .u8 h1, .int .u8 h2, .int .u8 h3] 46] w75 := S21.trans T29
          clear T29 S21
          refine J.head (.tuple #[.agg #[.int .i64 (nextF seed), .int .i64 0, .int .i64 (endE (errors % 7) false), .bool false, .bool ((endE (errors % 7) false) == 7)], .int .i64 0]) (by first | (simp only [tickV, zeroQ, fk106, fk107, fk108, fk109, reduceCtorEq, ↓reduceIte]; done) | simp [tickV, zeroQ, fk106, fk107, fk108, fk109]) ?_
          refine J.run 3 K7_197 [(79, .int .i64 0), (78, .agg #[.int .i64 (nextF seed), .int .i64 0, .int .i64 (endE (errors % 7) false), .bool false, .bool ((endE (errors % 7) false) == 7)]), (13, .pointer (some ⟨b7, 0, none⟩)), (41, .int .i64 0), (40, .agg #[.int .u8 h0, .int .u8 h1, .int .u8 h2, .int .u8 h3]), (10, .int .i64 0), (9, .pointer (some ⟨b2, 0, none⟩)), (3, .int .u16 bye)] w75 (by kernel_rfl) ?_
          refine J.stBox S95 1 31 0 (.agg #[.int .i64 (nextF seed), .int .i64 0, .int .i64 (endE (errors % 7) false), .bool false, .bool ((endE (errors % 7) false) == 7)]) [.int .i64 (nextF seed), .int .i64 0, .int .i64 (endE (errors % 7) false), .bool false, .bool ((endE (errors % 7) false) == 7)] [box b8 [.int .i64 bye] 3, box b7 [.int .i64 (nextF seed), .int .i64 0, .int .i64 (endE (errors % 7) false), .bool false, .bool ((endE (errors % 7) false) == 7)] 31, box b2 [.int .i64 seed, .int .i64 0, .int .i64 (errors % 7), .bool false, .bool false] 31, box b1 [.int .u8 h0, .int .u8 h1, .int .u8 h2, .int .u8 h3] 46] (by kernel_rfl) rfl (by kernel_rfl) (by kernel_rfl) rfl ?_
          intro w76 S96
          refine J.run 3 K7_35 [(13, .pointer (some ⟨b7, 0, none⟩)), (41, .int .i64 0), (40, .agg #[.int .u8 h0, .int .u8 h1, .int .u8 h2, .int .u8 h3]), (10, .int .i64 0), (9, .pointer (some ⟨b2, 0, none⟩)), (3, .int .u16 bye), (19, .int .i64 0)] w76 (by kernel_rfl) ?_
          exact X2 (nextF seed) (endE (errors % 7) false) ((endE (errors % 7) false) == 7) w76 (by omega) (by omega) (rfl) S96

end Go.Proofs.Ytjlmkdaeabjeoaa
