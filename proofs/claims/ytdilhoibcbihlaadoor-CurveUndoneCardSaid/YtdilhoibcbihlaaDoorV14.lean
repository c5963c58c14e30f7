/- Walks of functions of this seat, printed by a program over the engine. Conditions: as each theorem says. -/
import Derived.Test.YtdilhoibcbihlaaDoorV13
namespace Go.Proofs.YtdilhoibcbihlaaDoor
open Go.Eng Go.RowKit
set_option linter.unusedSimpArgs false
set_option linter.unusedVariables false

theorem list_ext_getD {l m : List Int} (h : l.length = m.length) (h2 : ∀ k, k < l.length → l.getD k 0 = m.getD k 0) : l = m := by
  apply List.ext_getElem h
  intro k h3 h4
  have := h2 k h3
  simpa [List.getD, h3, h4] using this
theorem beq_no {l m : List Int} {n k : Nat} (h : l.length = n) (h2 : m.length = k) (hne : (n : Int) ≠ k) : (l == m) = false := by
  rw [beq_eq_false_iff_ne]; intro e; rw [e] at h; omega
theorem beq_at {l m : List Int} {i : Nat} (h : l.getD i 0 ≠ m.getD i 0) : (l == m) = false := by
  rw [beq_eq_false_iff_ne]; intro e; rw [e] at h; exact h rfl
theorem beq_all {l m : List Int} (h : l.length = m.length) (h2 : ∀ j, j < l.length → l.getD j 0 = m.getD j 0) : (l == m) = true := by rw [beq_iff_eq]; exact list_ext_getD h h2

theorem hb31 : HasBody Tryd.prog 31 := fun _ _ => by kernel_rfl
noncomputable def K31_0 : List Item := adv 13 [] (bodyOf Tryd.f31)
noncomputable def K31_1 : List Item := adv 11 [false] K31_0
noncomputable def K31_2 : List Item := adv 5 [] K31_1
noncomputable def K31_3 : List Item := adv 10 [true] K31_2
noncomputable def K31_4 : List Item := adv 5 [false] (rRest K31_3)
noncomputable def K31_5 : List Item := adv 5 [true] (rRest K31_3)
noncomputable def K31_6 : List Item := adv 6 [false] K31_2
noncomputable def K31_7 : List Item := adv 5 [true] K31_0
set_option maxRecDepth 20000 in
set_option maxHeartbeats 20000000 in
theorem equal_any (la : Option Addr) (len cap : Nat) (l : List Int) (ma : Option Addr) (mn mc : Nat) (ml : List Int) (w : World) (hI : Ints w la len l) (hJ : Ints w ma mn ml) (hlen : len ≤ 9223372036854775807) : Ret Tryd.prog 31 #[.slice la len cap, .slice ma mn mc] w (fun v w' => v = .bool (l == ml) ∧ Sep w [] w') := by
  have S0 := Sep.refl w
  refine Ret.named fun R hR => ?_
  refine Ret.of_J (N := 26) [(0, .slice la len cap), (1, .slice ma mn mc)] Tryd.func31 rfl rfl (Nat.le_of_ble_eq_true (by kernel_rfl)) (by kernel_rfl) ?_
  have hl2 := hI.len_eq
  have hm2 := hJ.len_eq
  refine J.run 13 K31_0 [(10, .bool ((len : Int) != (mn : Int))), (0, .slice la len cap), (1, .slice ma mn mc)] w (by kernel_rfl) ?_
  by_cases fk1 : (len : Int) = (mn : Int)
  · skip
    refine J.head (.bool false) (congrArg Value.bool (bne_eq_false_iff_eq.2 fk1)) ?_
    refine J.run 11 K31_1 [(13, .int .i64 0), (12, .int .i64 (len : Int)), (0, .slice la len cap), (1, .slice ma mn mc)] w (by kernel_rfl) ?_
    have L31_1 : ∀ (mm_ : Nat) (i : Int) (w1 : World), (0 ≤ i) → (i ≤ (len : Int)) → (∀ j, j < (i).toNat → l.getD j 0 = ml.getD j 0) → Sep w [] w1 → ((len : Int) - i).toNat = mm_ → J Tryd.prog 31 26 R K31_1 [(13, .int .i64 i), (12, .int .i64 (len : Int)), (0, .slice la len cap), (1, .slice ma mn mc)] w1 := by
      intro mm1
      induction mm1 using Nat.strongRecOn with
      | _ mm1 ih1 =>
      intro i w1 h0 h1 hq S1 hm1
      refine J.run 5 K31_2 [(14, .bool (decide (i < (len : Int)))), (13, .int .i64 i), (12, .int .i64 (len : Int)), (0, .slice la len cap), (1, .slice ma mn mc)] w1 (by kernel_rfl) ?_
      by_cases fk2 : i < (len : Int)
      · skip
        refine J.head (.bool true) (congrArg Value.bool (decide_eq_true fk2)) ?_
        refine J.run 10 K31_3 [(5, .int .i64 i), (13, .int .i64 i), (12, .int .i64 (len : Int)), (0, .slice la len cap), (1, .slice ma mn mc)] w1 (by kernel_rfl) ?_
        obtain ⟨p1, hp1, hc1⟩ := hI.at 0 (i).toNat (by omega)
        obtain ⟨p2, hp2, hc2⟩ := hJ.at 0 (i).toNat (by omega)
        refine J.drawStill S1 9 Tryd.mixed (by kernel_rfl) (by kernel_rfl) (by kernel_rfl) ?_
        intro w2 S2
        refine SL.ok (by decide) (OK.run 16 (.slice la len cap) (by kernel_rfl)) ?_
        refine SL.ok (by decide) (OK.run 17 (.int .i64 i) (by kernel_rfl)) ?_
        refine SL.ok (by decide) (OK.index 18 22 1 la p1 len (i).toNat i (p1.add (i).toNat) (by kernel_rfl) (by kernel_rfl) hp1 (by omega) (by omega) (by rw [Nat.mul_one])) ?_
        refine SL.ok (by decide) (OK.ldCell 19 3 (p1.add (i).toNat) (.int .i64 (l.getD (i).toNat 0)) (by kernel_rfl) (by kernel_rfl) (S2.cell hc1)) ?_
        refine SL.ok (by decide) (OK.run 20 (.slice ma mn mc) (by kernel_rfl)) ?_
        refine SL.ok (by decide) (OK.run 21 (.int .i64 i) (by kernel_rfl)) ?_
        refine SL.ok (by decide) (OK.index 22 22 1 ma p2 mn (i).toNat i (p2.add (i).toNat) (by kernel_rfl) (by kernel_rfl) hp2 (by omega) (by omega) (by rw [Nat.mul_one])) ?_
        refine SL.ok (by decide) (OK.ldCell 23 3 (p2.add (i).toNat) (.int .i64 (ml.getD (i).toNat 0)) (by kernel_rfl) (by kernel_rfl) (S2.cell hc2)) ?_
        refine SL.ok (by decide) (OK.run 24 (.bool ((l.getD (i).toNat 0) != (ml.getD (i).toNat 0))) (by kernel_rfl)) ?_
        refine SL.done ?_
        refine TL.done (by kernel_rfl) ?_
        refine J.run 0 (rRest K31_3) [(24, .bool ((l.getD (i).toNat 0) != (ml.getD (i).toNat 0))), (13, .int .i64 i), (12, .int .i64 (len : Int)), (0, .slice la len cap), (1, .slice ma mn mc)] w2 (by kernel_rfl) ?_
        by_cases fk3 : (l.getD (i).toNat 0) = (ml.getD (i).toNat 0)
        · skip
          refine J.head (.bool false) (congrArg Value.bool (bne_eq_false_iff_eq.2 fk3)) ?_
          refine J.run 5 K31_4 [(25, .int .i64 (IntKind.wrap .i64 (i + 1))), (12, .int .i64 (len : Int)), (0, .slice la len cap), (1, .slice ma mn mc)] w2 (by kernel_rfl) ?_
          refine J.head (.int .i64 (i + 1)) (congrArg (Value.int .i64) (IntWalk.i64_in _ (by omega))) ?_
          refine J.run 3 K31_1 [(13, .int .i64 (i + 1)), (12, .int .i64 (len : Int)), (0, .slice la len cap), (1, .slice ma mn mc)] w2 (by kernel_rfl) ?_
          refine J.run 0 K31_1 [(13, .int .i64 (i + 1)), (12, .int .i64 (len : Int)), (0, .slice la len cap), (1, .slice ma mn mc)] w2 (by kernel_rfl) ?_
          exact ih1 _ (show ((len : Int) - (i + 1)).toNat < mm1 from by omega) (i + 1) w2 (by omega) (by omega) (by intro j hj; by_cases e : j = i.toNat; (subst e; exact fk3); exact hq j (by omega)) S2 rfl
        · skip
          refine J.head (.bool true) (congrArg Value.bool (bne_iff_ne.2 fk3)) ?_
          refine J.run 5 K31_5 [(4, .bool false)] w2 (by kernel_rfl) ?_
          refine J.ret Tryd.f31 [.bool false] Tryd.func31 ⟨by kernel_rfl, trivial⟩ ?_
          refine hR _ _ ?_
          exact ⟨congrArg Value.bool (beq_at (i := i.toNat) fk3).symm, S2.nil⟩
      · skip
        refine J.head (.bool false) (congrArg Value.bool (decide_eq_false fk2)) ?_
        refine J.run 6 K31_6 [(4, .bool true)] w1 (by kernel_rfl) ?_
        refine J.ret Tryd.f31 [.bool true] Tryd.func31 ⟨by kernel_rfl, trivial⟩ ?_
        refine hR _ _ ?_
        exact ⟨congrArg Value.bool (beq_all (by omega) fun j hj => hq j (by omega)).symm, S1.nil⟩
    exact L31_1 _ 0 w (by omega) (by omega) (by intro j hj; simp at hj) S0 rfl
  · skip
    refine J.head (.bool true) (congrArg Value.bool (bne_iff_ne.2 fk1)) ?_
    refine J.run 5 K31_7 [(4, .bool false)] w (by kernel_rfl) ?_
    refine J.ret Tryd.f31 [.bool false] Tryd.func31 ⟨by kernel_rfl, trivial⟩ ?_
    refine hR _ _ ?_
    exact ⟨congrArg Value.bool (beq_no hl2 hm2 (by omega)).symm, S0.nil⟩

theorem upT_yes {l : List Int} (h : ∀ j : Nat, j + 1 < l.length → l.getD j 0 ≤ l.getD (j + 1) 0) : upT l ((l.length : Int) - 1) = true := by
  unfold upT; rw [List.all_eq_true]
  intro j hj; rw [List.mem_range] at hj
  exact decide_eq_true (h j (by omega))
theorem upT_no {l : List Int} {i : Int} (h0 : 0 < i) (hi : i < (l.length : Int)) (h : l.getD i.toNat 0 < l.getD (i - 1).toNat 0) : upT l ((l.length : Int) - 1) = false := by
  cases hu : upT l ((l.length : Int) - 1) with
  | false => rfl
  | true =>
    have := upT_facts hu (i - 1).toNat (by omega)
    rw [show (i - 1).toNat + 1 = i.toNat by omega] at this; omega
theorem srt_step {l : List Int} {i : Int} (h0 : 0 < i) (h : l.getD (i - 1).toNat 0 ≤ l.getD i.toNat 0) (hq : ∀ j : Nat, i ≤ (j : Int) → j + 1 < l.length → l.getD j 0 ≤ l.getD (j + 1) 0) : ∀ j : Nat, i - 1 ≤ (j : Int) → j + 1 < l.length → l.getD j 0 ≤ l.getD (j + 1) 0 := by
  intro j h1 h2
  by_cases e : (j : Int) = i - 1
  · rw [show j = (i - 1).toNat by omega, show (i - 1).toNat + 1 = i.toNat by omega]; exact h
  · exact hq j (by omega) h2
def greatC (c : Crv) : Bool := decide ((c.gX_n : Int) > 100) || decide ((c.gY_n : Int) > 100)
theorem same_no {a b c d : List Int} (h : a.length ≠ c.length ∨ b.length ≠ d.length) : ((a == c) && (b == d)) = false := by
  cases hx : ((a == c) && (b == d)) with
  | false => rfl
  | true => simp only [Bool.and_eq_true, beq_iff_eq] at hx; rw [hx.1, hx.2] at h; omega
theorem same_a {a b c d : List Int} {i : Nat} (h : a.getD i 0 ≠ c.getD i 0) : ((a == c) && (b == d)) = false := by rw [beq_at h]; rfl
theorem same_b {a b c d : List Int} {i : Nat} (h : b.getD i 0 ≠ d.getD i 0) : ((a == c) && (b == d)) = false := by rw [beq_at h, Bool.and_false]
theorem same_yes {a b c d : List Int} (h : a = c) (h2 : b = d) : ((a == c) && (b == d)) = true := by rw [h, h2, beq_self_eq_true, beq_self_eq_true]; rfl

theorem hb58 : HasBody Tryd.prog 58 := fun _ _ => by kernel_rfl
noncomputable def K58_0 : List Item := adv 9 [] (bodyOf Tryd.f58)
noncomputable def K58_1 : List Item := adv 2 [] K58_0
set_option maxRecDepth 20000 in
set_option maxHeartbeats 20000000 in
theorem isnan_any (a : Int) (w : World) : Ret Tryd.prog 58 #[.int .i64 a] w (fun v w' => v = .bool false ∧ Sep w [] w') := by
  have S0 := Sep.refl w
  refine Ret.named fun R hR => ?_
  refine Ret.of_J (N := 6) [(0, .int .i64 a)] Tryd.func58 rfl rfl (Nat.le_of_ble_eq_true (by kernel_rfl)) (by kernel_rfl) ?_
  refine J.run 9 K58_0 [(5, .bool (a != a))] w (by kernel_rfl) ?_
  refine J.head (.bool false) (congrArg Value.bool (by simp)) ?_
  refine J.run 2 K58_1 [(2, .bool false)] w (by kernel_rfl) ?_
  refine J.ret Tryd.f58 [.bool false] Tryd.func58 ⟨by kernel_rfl, trivial⟩ ?_
  refine hR _ _ ?_
  exact ⟨rfl, S0.nil⟩

theorem hb45 : HasBody Tryd.prog 45 := fun _ _ => by kernel_rfl
noncomputable def K45_0 : List Item := adv 7 [] (bodyOf Tryd.f45)
noncomputable def K45_1 : List Item := adv 12 [] (popK K45_0)
set_option maxRecDepth 20000 in
set_option maxHeartbeats 20000000 in
theorem less_any (a b : Int) (w : World) : Ret Tryd.prog 45 #[.int .i64 a, .int .i64 b] w (fun v w' => v = .bool (decide (a < b)) ∧ Sep w [] w') := by
  have S0 := Sep.refl w
  refine Ret.named fun R hR => ?_
  refine Ret.of_J (N := 17) [(0, .int .i64 a), (1, .int .i64 b)] Tryd.func45 rfl rfl (Nat.le_of_ble_eq_true (by kernel_rfl)) (by kernel_rfl) ?_
  refine J.run 7 K45_0 [(5, .int .i64 a), (0, .int .i64 a), (1, .int .i64 b)] w (by kernel_rfl) ?_
  refine J.callF 6 58 #[.int .i64 a] hb58 (by kernel_rfl) (isnan_any a _) ?_
  rintro _ w1 ⟨rfl, T1⟩
  have S1 : Sep w [] w1 := S0.trans T1
  clear T1
  refine J.run 12 K45_1 [(4, .bool (decide (a < b)))] w1 (by kernel_rfl) ?_
  refine J.ret Tryd.f45 [.bool (decide (a < b))] Tryd.func45 ⟨by kernel_rfl, trivial⟩ ?_
  refine hR _ _ ?_
  exact ⟨rfl, S1.nil⟩

theorem hb20 : HasBody Tryd.prog 20 := fun _ _ => by kernel_rfl
noncomputable def K20_0 : List Item := adv 10 [] (bodyOf Tryd.f20)
noncomputable def K20_1 : List Item := adv 4 [] K20_0
noncomputable def K20_2 : List Item := adv 6 [] K20_1
noncomputable def K20_3 : List Item := adv 5 [true] K20_2
noncomputable def K20_4 : List Item := adv 5 [true] (rRest K20_3)
noncomputable def K20_5 : List Item := adv 6 [false] (rRest K20_3)
noncomputable def K20_6 : List Item := adv 6 [false] K20_2
set_option maxRecDepth 20000 in
set_option maxHeartbeats 20000000 in
theorem sorted_any (la : Option Addr) (len cap : Nat) (l : List Int) (w : World) (hI : Ints w la len l) (hlen : len ≤ 9223372036854775807) : Ret Tryd.prog 20 #[.slice la len cap] w (fun v w' => v = .bool (upT l ((l.length : Int) - 1)) ∧ Sep w [] w') := by
  have S0 := Sep.refl w
  refine Ret.named fun R hR => ?_
  refine Ret.of_J (N := 21) [(0, .slice la len cap)] Tryd.func20 rfl rfl (Nat.le_of_ble_eq_true (by kernel_rfl)) (by kernel_rfl) ?_
  have hll := hI.len_eq
  refine J.run 10 K20_0 [(6, .int .i64 (IntKind.wrap .i64 ((len : Int) - 1))), (0, .slice la len cap)] w (by kernel_rfl) ?_
  refine J.head (.int .i64 ((len : Int) - 1)) (congrArg (Value.int .i64) (IntWalk.i64_in _ (by omega))) ?_
  refine J.run 4 K20_1 [(3, .int .i64 ((len : Int) - 1)), (0, .slice la len cap)] w (by kernel_rfl) ?_
  have L20_1 : ∀ (mm_ : Nat) (i : Int) (w1 : World), (i < (len : Int) ∧ -1 ≤ i) → (∀ j : Nat, i ≤ (j : Int) → j + 1 < l.length → l.getD j 0 ≤ l.getD (j + 1) 0) → Sep w [] w1 → (i).toNat = mm_ → J Tryd.prog 20 21 R K20_1 [(3, .int .i64 i), (0, .slice la len cap)] w1 := by
    intro mm1
    induction mm1 using Nat.strongRecOn with
    | _ mm1 ih1 =>
    intro i w1 h1 hq S1 hm1
    refine J.run 6 K20_2 [(8, .bool (decide (i > 0))), (3, .int .i64 i), (0, .slice la len cap)] w1 (by kernel_rfl) ?_
    by_cases fk1 : i > 0
    · skip
      refine J.head (.bool true) (congrArg Value.bool (decide_eq_true fk1)) ?_
      refine J.run 5 K20_3 [(3, .int .i64 i), (0, .slice la len cap)] w1 (by kernel_rfl) ?_
      obtain ⟨p1, hp1, hc1⟩ := hI.at 0 (i).toNat (by omega)
      obtain ⟨p2, hp2, hc2⟩ := hI.at 0 (i - 1).toNat (by omega)
      refine J.drawTail S1 9 Tryd.mixed (by kernel_rfl) (by kernel_rfl) ?_
      intro w2 S2
      refine SL.ok (by decide) (OK.run 11 (.slice la len cap) (by kernel_rfl)) ?_
      refine SL.ok (by decide) (OK.run 12 (.int .i64 i) (by kernel_rfl)) ?_
      refine SL.ok (by decide) (OK.index 13 22 1 la p1 len (i).toNat i (p1.add (i).toNat) (by kernel_rfl) (by kernel_rfl) hp1 (by omega) (by omega) (by rw [Nat.mul_one])) ?_
      refine SL.ok (by decide) (OK.ldCell 14 3 (p1.add (i).toNat) (.int .i64 (l.getD (i).toNat 0)) (by kernel_rfl) (by kernel_rfl) (S2.cell hc1)) ?_
      refine SL.ok (by decide) (OK.run 15 (.slice la len cap) (by kernel_rfl)) ?_
      refine SL.ok (by decide) (OK.run 16 (.int .i64 i) (by kernel_rfl)) ?_
      refine SL.ok (by decide) (OK.run 17 (.int .i64 (IntKind.wrap .i64 (i - 1))) (by kernel_rfl)) ?_
      refine SL.head (.int .i64 (i - 1)) (congrArg (Value.int .i64) (IntWalk.i64_in _ (by omega))) ?_
      refine SL.ok (by decide) (OK.index 18 22 1 la p2 len (i - 1).toNat (i - 1) (p2.add (i - 1).toNat) (by kernel_rfl) (by kernel_rfl) hp2 (by omega) (by omega) (by rw [Nat.mul_one])) ?_
      refine SL.ok (by decide) (OK.ldCell 19 3 (p2.add (i - 1).toNat) (.int .i64 (l.getD (i - 1).toNat 0)) (by kernel_rfl) (by kernel_rfl) (S2.cell hc2)) ?_
      refine SL.done ?_
      refine TL.callF 20 45 #[.int .i64 (l.getD (i).toNat 0), .int .i64 (l.getD (i - 1).toNat 0)] hb45 (by kernel_rfl) (less_any (l.getD (i).toNat 0) (l.getD (i - 1).toNat 0) _) ?_
      rintro _ w3 ⟨rfl, T1⟩
      have S3 : Sep w [] w3 := S2.trans T1
      clear T1 S2
      refine TL.done (by kernel_rfl) ?_
      refine J.run 0 (rRest K20_3) [(20, .bool (decide ((l.getD (i).toNat 0) < (l.getD (i - 1).toNat 0)))), (3, .int .i64 i), (0, .slice la len cap)] w3 (by kernel_rfl) ?_
      by_cases fk2 : (l.getD (i).toNat 0) < (l.getD (i - 1).toNat 0)
      · skip
        refine J.head (.bool true) (congrArg Value.bool (decide_eq_true fk2)) ?_
        refine J.run 5 K20_4 [(2, .bool false)] w3 (by kernel_rfl) ?_
        refine J.ret Tryd.f20 [.bool false] Tryd.func20 ⟨by kernel_rfl, trivial⟩ ?_
        refine hR _ _ ?_
        exact ⟨congrArg Value.bool (upT_no (i := i) (by omega) (by omega) (by omega)).symm, S3.nil⟩
      · skip
        refine J.head (.bool false) (congrArg Value.bool (decide_eq_false fk2)) ?_
        refine J.run 6 K20_5 [(10, .int .i64 (IntKind.wrap .i64 (i - 1))), (0, .slice la len cap)] w3 (by kernel_rfl) ?_
        refine J.head (.int .i64 (i - 1)) (congrArg (Value.int .i64) (IntWalk.i64_in _ (by omega))) ?_
        refine J.run 3 K20_1 [(3, .int .i64 (i - 1)), (0, .slice la len cap)] w3 (by kernel_rfl) ?_
        refine J.run 0 K20_1 [(3, .int .i64 (i - 1)), (0, .slice la len cap)] w3 (by kernel_rfl) ?_
        exact ih1 _ (show ((i - 1)).toNat < mm1 from by omega) (i - 1) w3 (by omega) (srt_step (by omega) (by omega) hq) S3 rfl
    · skip
      refine J.head (.bool false) (congrArg Value.bool (decide_eq_false fk1)) ?_
      refine J.run 6 K20_6 [(2, .bool true)] w1 (by kernel_rfl) ?_
      refine J.ret Tryd.f20 [.bool true] Tryd.func20 ⟨by kernel_rfl, trivial⟩ ?_
      refine hR _ _ ?_
      exact ⟨congrArg Value.bool (upT_yes fun j hj => hq j (by omega) hj).symm, S1.nil⟩
  exact L20_1 _ ((len : Int) - 1) w (by omega) (by intro j g1 g2; omega) S0 rfl

theorem hb34 : HasBody Tryd.prog 34 := fun _ _ => by kernel_rfl
noncomputable def K34_0 : List Item := adv 2 [] (bodyOf Tryd.f34)
noncomputable def K34_1 : List Item := adv 5 [] (popK K34_0)
noncomputable def K34_2 : List Item := adv 3 [] (popK K34_1)
noncomputable def K34_3 : List Item := adv 7 [] K34_2
noncomputable def K34_4 : List Item := adv 1 [] K34_2
noncomputable def K34_5 : List Item := adv 5 [] (popK K34_4)
set_option maxRecDepth 20000 in
set_option maxHeartbeats 20000000 in
theorem great1_any (c : Crv) (w : World) : Ret Tryd.prog 34 #[.agg #[.slice c.gX_a c.gX_n c.gX_c, .slice c.gY_a c.gY_n c.gY_c]] w (fun v w' => v = .bool (greatC c) ∧ Sep w [] w') := by
  have S0 := Sep.refl w
  refine Ret.named fun R hR => ?_
  refine Ret.of_J (N := 13) [(0, .agg #[.slice c.gX_a c.gX_n c.gX_c, .slice c.gY_a c.gY_n c.gY_c])] Tryd.func34 rfl rfl (Nat.le_of_ble_eq_true (by kernel_rfl)) (by kernel_rfl) ?_
  refine J.run 2 K34_0 [(0, .agg #[.slice c.gX_a c.gX_n c.gX_c, .slice c.gY_a c.gY_n c.gY_c])] w (by kernel_rfl) ?_
  refine J.new S0 1 [.slice c.gX_a c.gX_n c.gX_c, .slice c.gY_a c.gY_n c.gY_c] 24 (by kernel_rfl) ?_
  intro b1 w1 S1
  refine J.run 5 K34_1 [(3, .pointer (some ⟨b1, 0, none⟩)), (1, .pointer (some ⟨b1, 0, none⟩))] w1 (by kernel_rfl) ?_
  refine J.ok (OK.ldBox S1 0 4 22 0 (.slice c.gX_a c.gX_n c.gX_c) (by kernel_rfl) rfl (by kernel_rfl)) ?_
  refine J.run 3 K34_2 [(7, .bool (decide ((c.gX_n : Int) > 100))), (1, .pointer (some ⟨b1, 0, none⟩))] w1 (by kernel_rfl) ?_
  by_cases fk1 : (c.gX_n : Int) > 100
  · skip
    refine J.head (.bool true) (congrArg Value.bool (decide_eq_true fk1)) ?_
    refine J.run 7 K34_3 [(2, .bool true)] w1 (by kernel_rfl) ?_
    refine J.ret Tryd.f34 [.bool true] Tryd.func34 ⟨by kernel_rfl, trivial⟩ ?_
    refine hR _ _ ?_
    exact ⟨congrArg Value.bool (by unfold greatC; first | (simp [fk1]; done) | (simp [fk1]; omega)), S1.nil⟩
  · skip
    refine J.head (.bool false) (congrArg Value.bool (decide_eq_false fk1)) ?_
    refine J.run 1 K34_4 [(8, .pointer (some ⟨b1, 1, none⟩)), (7, .bool false)] w1 (by kernel_rfl) ?_
    refine J.ok (OK.ldBox S1 0 9 22 1 (.slice c.gY_a c.gY_n c.gY_c) (by kernel_rfl) rfl (by kernel_rfl)) ?_
    refine J.run 5 K34_5 [(2, .bool (decide ((c.gY_n : Int) > 100)))] w1 (by kernel_rfl) ?_
    refine J.ret Tryd.f34 [.bool (decide ((c.gY_n : Int) > 100))] Tryd.func34 ⟨by kernel_rfl, trivial⟩ ?_
    refine hR _ _ ?_
    exact ⟨congrArg Value.bool (by unfold greatC; first | (simp [fk1]; done) | (simp [fk1]; omega)), S1.nil⟩

theorem hb54 : HasBody Tryd.prog 54 := fun _ _ => by kernel_rfl
noncomputable def K54_0 : List Item := adv 13 [] (bodyOf Tryd.f54)
noncomputable def K54_1 : List Item := adv 5 [] K54_0
noncomputable def K54_2 : List Item := adv 14 [true] K54_1
noncomputable def K54_3 : List Item := adv 1 [] (popK (popK (popK K54_2)))
noncomputable def K54_4 : List Item := adv 6 [true] K54_3
noncomputable def K54_5 : List Item := adv 5 [false] K54_3
noncomputable def K54_6 : List Item := adv 6 [false] K54_1
set_option maxRecDepth 20000 in
set_option maxHeartbeats 20000000 in
theorem indexC0 (la : Option Addr) (len cap : Nat) (l : List Crv) (g : FuncId) (q : Crv → Bool) (w : World) (hI : Recs crvE 2 w la len l) (hlen : len ≤ 9223372036854775807) (hbg : HasBody Tryd.prog g) (hcall : ∀ (i : Nat) (w2 : World), i < l.length → Sep w [] w2 → Ret Tryd.prog g #[.agg #[.slice ((l.getD i (⟨none, 0, 0, [], none, 0, 0, []⟩ : Crv)).gX_a) ((l.getD i (⟨none, 0, 0, [], none, 0, 0, []⟩ : Crv)).gX_n) ((l.getD i (⟨none, 0, 0, [], none, 0, 0, []⟩ : Crv)).gX_c), .slice ((l.getD i (⟨none, 0, 0, [], none, 0, 0, []⟩ : Crv)).gY_a) ((l.getD i (⟨none, 0, 0, [], none, 0, 0, []⟩ : Crv)).gY_n) ((l.getD i (⟨none, 0, 0, [], none, 0, 0, []⟩ : Crv)).gY_c)]] w2 (fun v w3 => v = .bool (q (l.getD i (⟨none, 0, 0, [], none, 0, 0, []⟩ : Crv))) ∧ Sep w2 [] w3)) : Ret Tryd.prog 54 #[.slice la len cap, .func (.func g) #[] #[]] w (fun v w' => v = .int .i64 (indexF q l) ∧ Sep w [] w') := by
  have S0 := Sep.refl w
  refine Ret.named fun R hR => ?_
  refine Ret.of_J (N := 19) [(0, .slice la len cap), (1, .func (.func g) #[] #[])] Tryd.func54 rfl rfl (Nat.le_of_ble_eq_true (by kernel_rfl)) (by kernel_rfl) ?_
  refine J.run 13 K54_0 [(8, .int .i64 0), (7, .int .i64 (len : Int)), (0, .slice la len cap), (1, .func (.func g) #[] #[])] w (by kernel_rfl) ?_
  have L54_1 : ∀ (mm_ : Nat) (i : Int) (w1 : World), (0 ≤ i) → (i ≤ (len : Int)) → (∀ j, j < (i).toNat → q (l.getD j (⟨none, 0, 0, [], none, 0, 0, []⟩ : Crv)) = false) → Sep w [] w1 → ((len : Int) - i).toNat = mm_ → J Tryd.prog 54 19 R K54_0 [(8, .int .i64 i), (7, .int .i64 (len : Int)), (0, .slice la len cap), (1, .func (.func g) #[] #[])] w1 := by
    intro mm1
    induction mm1 using Nat.strongRecOn with
    | _ mm1 ih1 =>
    intro i w1 h0 h1 hq S1 hm1
    refine J.run 5 K54_1 [(9, .bool (decide (i < (len : Int)))), (8, .int .i64 i), (7, .int .i64 (len : Int)), (0, .slice la len cap), (1, .func (.func g) #[] #[])] w1 (by kernel_rfl) ?_
    by_cases fk1 : i < (len : Int)
    · skip
      refine J.head (.bool true) (congrArg Value.bool (decide_eq_true fk1)) ?_
      refine J.run 14 K54_2 [(13, .int .i64 i), (12, .slice la len cap), (11, .func (.func g) #[] #[]), (5, .int .i64 i), (8, .int .i64 i), (7, .int .i64 (len : Int)), (0, .slice la len cap), (1, .func (.func g) #[] #[])] w1 (by kernel_rfl) ?_
      obtain ⟨p1, hp1, hc1⟩ := hI.at (⟨none, 0, 0, [], none, 0, 0, []⟩ : Crv) (i).toNat (by omega)
      refine J.ok (OK.index 14 61 2 la p1 len (i).toNat i (p1.add ((i).toNat * 2)) (by kernel_rfl) (by kernel_rfl) hp1 (by omega) (by omega) rfl) ?_
      refine J.ok (OK.ldCells 15 24 (p1.add ((i).toNat * 2)) [.slice ((l.getD (i).toNat (⟨none, 0, 0, [], none, 0, 0, []⟩ : Crv)).gX_a) ((l.getD (i).toNat (⟨none, 0, 0, [], none, 0, 0, []⟩ : Crv)).gX_n) ((l.getD (i).toNat (⟨none, 0, 0, [], none, 0, 0, []⟩ : Crv)).gX_c), .slice ((l.getD (i).toNat (⟨none, 0, 0, [], none, 0, 0, []⟩ : Crv)).gY_a) ((l.getD (i).toNat (⟨none, 0, 0, [], none, 0, 0, []⟩ : Crv)).gY_n) ((l.getD (i).toNat (⟨none, 0, 0, [], none, 0, 0, []⟩ : Crv)).gY_c)] (by kernel_rfl) (by kernel_rfl) (by kernel_rfl) (fun j_ v_ hj_ => S1.cell (hc1 j_ v_ hj_))) ?_
      refine J.callF 16 g #[.agg #[.slice ((l.getD (i).toNat (⟨none, 0, 0, [], none, 0, 0, []⟩ : Crv)).gX_a) ((l.getD (i).toNat (⟨none, 0, 0, [], none, 0, 0, []⟩ : Crv)).gX_n) ((l.getD (i).toNat (⟨none, 0, 0, [], none, 0, 0, []⟩ : Crv)).gX_c), .slice ((l.getD (i).toNat (⟨none, 0, 0, [], none, 0, 0, []⟩ : Crv)).gY_a) ((l.getD (i).toNat (⟨none, 0, 0, [], none, 0, 0, []⟩ : Crv)).gY_n) ((l.getD (i).toNat (⟨none, 0, 0, [], none, 0, 0, []⟩ : Crv)).gY_c)]] hbg (by kernel_rfl) (hcall (i).toNat w1 (by have := hI.len_eq; omega) S1.nil) ?_
      rintro _ w2 ⟨rfl, T1⟩
      have S2 : Sep w [] w2 := S1.trans T1
      clear T1 S1
      refine J.run 1 K54_3 [(16, .bool (q (l.getD (i).toNat (⟨none, 0, 0, [], none, 0, 0, []⟩ : Crv)))), (5, .int .i64 i), (8, .int .i64 i), (7, .int .i64 (len : Int)), (0, .slice la len cap), (1, .func (.func g) #[] #[])] w2 (by kernel_rfl) ?_
      rcases Bool.eq_false_or_eq_true (q (l.getD (i).toNat (⟨none, 0, 0, [], none, 0, 0, []⟩ : Crv))) with fk2 | fk2
      · skip
        refine J.head (.bool true) (congrArg Value.bool fk2) ?_
        refine J.run 6 K54_4 [(4, .int .i64 i)] w2 (by kernel_rfl) ?_
        refine J.ret Tryd.f54 [.int .i64 i] Tryd.func54 ⟨by kernel_rfl, trivial⟩ ?_
        refine hR _ _ ?_
        exact ⟨by rw [tup_one, indexF_some (⟨none, 0, 0, [], none, 0, 0, []⟩ : Crv) i.toNat (by have := hI.len_eq; omega) hq fk2, Int.toNat_of_nonneg h0], S2.nil⟩
      · skip
        refine J.head (.bool false) (congrArg Value.bool fk2) ?_
        refine J.run 5 K54_5 [(18, .int .i64 (IntKind.wrap .i64 (i + 1))), (7, .int .i64 (len : Int)), (0, .slice la len cap), (1, .func (.func g) #[] #[])] w2 (by kernel_rfl) ?_
        refine J.head (.int .i64 (i + 1)) (congrArg (Value.int .i64) (IntWalk.i64_in _ (by omega))) ?_
        refine J.run 3 K54_0 [(8, .int .i64 (i + 1)), (7, .int .i64 (len : Int)), (0, .slice la len cap), (1, .func (.func g) #[] #[])] w2 (by kernel_rfl) ?_
        refine J.run 0 K54_0 [(8, .int .i64 (i + 1)), (7, .int .i64 (len : Int)), (0, .slice la len cap), (1, .func (.func g) #[] #[])] w2 (by kernel_rfl) ?_
        exact ih1 _ (show ((len : Int) - (i + 1)).toNat < mm1 from by omega) (i + 1) w2 (by omega) (by omega) (by intro j hj; by_cases e : j = i.toNat; (subst e; exact fk2); exact hq j (by omega)) S2 rfl
    · skip
      refine J.head (.bool false) (congrArg Value.bool (decide_eq_false fk1)) ?_
      refine J.run 6 K54_6 [(4, .int .i64 (-1))] w1 (by kernel_rfl) ?_
      refine J.ret Tryd.f54 [.int .i64 (-1)] Tryd.func54 ⟨by kernel_rfl, trivial⟩ ?_
      refine hR _ _ ?_
      exact ⟨by rw [tup_one, indexF_none (⟨none, 0, 0, [], none, 0, 0, []⟩ : Crv) fun j hj => hq j (by have := hI.len_eq; omega)], S1.nil⟩
  exact L54_1 _ 0 w (by omega) (by omega) (by intro j hj; simp at hj) S0 rfl

theorem hb33 : HasBody Tryd.prog 33 := fun _ _ => by kernel_rfl
noncomputable def K33_0 : List Item := adv 8 [] (bodyOf Tryd.f33)
noncomputable def K33_1 : List Item := adv 3 [] (popK K33_0)
set_option maxRecDepth 20000 in
set_option maxHeartbeats 20000000 in
theorem containsC0 (la : Option Addr) (len cap : Nat) (l : List Crv) (g : FuncId) (q : Crv → Bool) (w : World) (hI : Recs crvE 2 w la len l) (hlen : len ≤ 9223372036854775807) (hbg : HasBody Tryd.prog g) (hcall : ∀ (i : Nat) (w2 : World), i < l.length → Sep w [] w2 → Ret Tryd.prog g #[.agg #[.slice ((l.getD i (⟨none, 0, 0, [], none, 0, 0, []⟩ : Crv)).gX_a) ((l.getD i (⟨none, 0, 0, [], none, 0, 0, []⟩ : Crv)).gX_n) ((l.getD i (⟨none, 0, 0, [], none, 0, 0, []⟩ : Crv)).gX_c), .slice ((l.getD i (⟨none, 0, 0, [], none, 0, 0, []⟩ : Crv)).gY_a) ((l.getD i (⟨none, 0, 0, [], none, 0, 0, []⟩ : Crv)).gY_n) ((l.getD i (⟨none, 0, 0, [], none, 0, 0, []⟩ : Crv)).gY_c)]] w2 (fun v w3 => v = .bool (q (l.getD i (⟨none, 0, 0, [], none, 0, 0, []⟩ : Crv))) ∧ Sep w2 [] w3)) : Ret Tryd.prog 33 #[.slice la len cap, .func (.func g) #[] #[]] w (fun v w' => v = .bool (l.any q) ∧ Sep w [] w') := by
  have S0 := Sep.refl w
  refine Ret.named fun R hR => ?_
  refine Ret.of_J (N := 9) [(0, .slice la len cap), (1, .func (.func g) #[] #[])] Tryd.func33 rfl rfl (Nat.le_of_ble_eq_true (by kernel_rfl)) (by kernel_rfl) ?_
  refine J.run 8 K33_0 [(6, .func (.func g) #[] #[]), (5, .slice la len cap)] w (by kernel_rfl) ?_
  refine J.callF 7 54 #[.slice la len cap, .func (.func g) #[] #[]] hb54 (by kernel_rfl) (indexC0 la len cap l g  q _ (hI.sep S0) (by first | omega | (simp; omega)) hbg (hcall)) ?_
  rintro _ w1 ⟨rfl, T1⟩
  have S1 : Sep w [] w1 := S0.trans T1
  clear T1
  refine J.run 3 K33_1 [(4, .bool (decide ((indexF q l) ≥ 0)))] w1 (by kernel_rfl) ?_
  refine J.ret Tryd.f33 [.bool (decide ((indexF q l) ≥ 0))] Tryd.func33 ⟨by kernel_rfl, trivial⟩ ?_
  refine hR _ _ ?_
  exact ⟨congrArg Value.bool (by first | exact indexF_nonneg), S1.nil⟩

theorem hb11 : HasBody Tryd.prog 11 := fun _ _ => by kernel_rfl
noncomputable def K11_0 : List Item := adv 7 [] (bodyOf Tryd.f11)
noncomputable def K11_1 : List Item := adv 2 [] (popK K11_0)
set_option maxRecDepth 20000 in
set_option maxHeartbeats 20000000 in
theorem great_any (la : Option Addr) (len cap : Nat) (l : List Crv) (w : World) (hI : Recs crvE 2 w la len l) (hlen : len ≤ 9223372036854775807) : Ret Tryd.prog 11 #[.slice la len cap] w (fun v w' => v = .bool (l.any greatC) ∧ Sep w [] w') := by
  have S0 := Sep.refl w
  refine Ret.named fun R hR => ?_
  refine Ret.of_J (N := 5) [(0, .slice la len cap)] Tryd.func11 rfl rfl (Nat.le_of_ble_eq_true (by kernel_rfl)) (by kernel_rfl) ?_
  have hll := hI.len_eq
  refine J.run 7 K11_0 [(3, .slice la len cap)] w (by kernel_rfl) ?_
  refine J.callF 4 33 #[.slice la len cap, .func (.func 34) #[] #[]] hb33 (by kernel_rfl) (containsC0 la len cap l 34  greatC _ (hI.sep S0) (by first | omega | (simp; omega)) hb34 (fun i_ w_ hi_ S_ => great1_any _ w_)) ?_
  rintro _ w1 ⟨rfl, T1⟩
  have S1 : Sep w [] w1 := S0.trans T1
  clear T1
  refine J.run 2 K11_1 [(2, .bool (List.any l greatC))] w1 (by kernel_rfl) ?_
  refine J.ret Tryd.f11 [.bool (List.any l greatC)] Tryd.func11 ⟨by kernel_rfl, trivial⟩ ?_
  refine hR _ _ ?_
  exact ⟨rfl, S1.nil⟩

end Go.Proofs.YtdilhoibcbihlaaDoor
