/- Walks of functions of this seat, printed by a program over the engine. Conditions: as each theorem says. -/
import Derived.Test.YtbbpgidmadlgmaaC2
namespace Go.Proofs.Ytbbpgidmadlgmaa
open Go.Eng Go.RowKit
set_option linter.unusedSimpArgs false
set_option linter.unusedVariables false

theorem list_ext_getD {l m : List Int} (h : l.length = m.length) (h2 : ∀ k, k < l.length → l.getD k 0 = m.getD k 0) : l = m := by
  apply List.ext_getElem h
  intro k h3 h4
  have := h2 k h3
  simpa [List.getD, h3, h4] using this
theorem beq_no {l m : List Int} {n k : Nat} (h : l.length = n) (h2 : m.length = k) (hne : (n : Int) ≠ k) : (l == m) = false := by
  rw [beq_eq_false_iff_ne]; intro e; rw [e] at h; omega
theorem beq_at {l m : List Int} {i : Nat} (h : l.getD i 0 ≠ m.getD i 0) : (l == m) = false := by
  rw [beq_eq_false_iff_ne]; intro e; rw [e] at h; exact h rfl
theorem beq_all {l m : List Int} (h : l.length = m.length) (h2 : ∀ j, j < l.length → l.getD j 0 = m.getD j 0) : (l == m) = true := by rw [beq_iff_eq]; exact list_ext_getD h h2

theorem hb13 : HasBody Try.prog 13 := fun _ _ => by kernel_rfl
noncomputable def K13_0 : List Item := adv 13 [] (bodyOf Try.f13)
noncomputable def K13_1 : List Item := adv 11 [false] K13_0
noncomputable def K13_2 : List Item := adv 5 [] K13_1
noncomputable def K13_3 : List Item := adv 10 [true] K13_2
noncomputable def K13_4 : List Item := adv 5 [false] (rRest K13_3)
noncomputable def K13_5 : List Item := adv 5 [true] (rRest K13_3)
noncomputable def K13_6 : List Item := adv 6 [false] K13_2
noncomputable def K13_7 : List Item := adv 5 [true] K13_0
set_option maxRecDepth 20000 in
set_option maxHeartbeats 20000000 in
theorem equal_any (la : Option Addr) (len cap : Nat) (l : List Int) (ma : Option Addr) (mn mc : Nat) (ml : List Int) (w : World) (hI : Ints w la len l) (hJ : Ints w ma mn ml) (hlen : len ≤ 9223372036854775807) : Ret Try.prog 13 #[.slice la len cap, .slice ma mn mc] w (fun v w' => v = .bool (l == ml) ∧ Sep w [] w') := by
  have S0 := Sep.refl w
  refine Ret.named fun R hR => ?_
  refine Ret.of_J (N := 26) [(0, .slice la len cap), (1, .slice ma mn mc)] Try.func13 rfl rfl (Nat.le_of_ble_eq_true (by kernel_rfl)) (by kernel_rfl) ?_
  have hl2 := hI.len_eq
  have hm2 := hJ.len_eq
  refine J.run 13 K13_0 [(10, .bool ((len : Int) != (mn : Int))), (0, .slice la len cap), (1, .slice ma mn mc)] w (by kernel_rfl) ?_
  by_cases fk1 : (len : Int) = (mn : Int)
  · skip
    refine J.head (.bool false) (congrArg Value.bool (bne_eq_false_iff_eq.2 fk1)) ?_
    refine J.run 11 K13_1 [(13, .int .i64 0), (12, .int .i64 (len : Int)), (0, .slice la len cap), (1, .slice ma mn mc)] w (by kernel_rfl) ?_
    have L13_1 : ∀ (m : Nat) (i : Int) (w1 : World), (0 ≤ i) → (i ≤ (len : Int)) → (∀ j, j < (i).toNat → l.getD j 0 = ml.getD j 0) → Sep w [] w1 → ((len : Int) - i).toNat = m → J Try.prog 13 26 R K13_1 [(13, .int .i64 i), (12, .int .i64 (len : Int)), (0, .slice la len cap), (1, .slice ma mn mc)] w1 := by
      intro m
      induction m using Nat.strongRecOn with
      | _ m ih1 =>
      intro i w1 h0 h1 hq S1 hm1
      refine J.run 5 K13_2 [(14, .bool (decide (i < (len : Int)))), (13, .int .i64 i), (12, .int .i64 (len : Int)), (0, .slice la len cap), (1, .slice ma mn mc)] w1 (by kernel_rfl) ?_
      by_cases fk2 : i < (len : Int)
      · skip
        refine J.head (.bool true) (congrArg Value.bool (decide_eq_true fk2)) ?_
        refine J.run 10 K13_3 [(5, .int .i64 i), (13, .int .i64 i), (12, .int .i64 (len : Int)), (0, .slice la len cap), (1, .slice ma mn mc)] w1 (by kernel_rfl) ?_
        obtain ⟨p1, hp1, hc1⟩ := hI.at 0 (i).toNat (by omega)
        obtain ⟨p2, hp2, hc2⟩ := hJ.at 0 (i).toNat (by omega)
        refine J.drawStill S1 9 Try.mixed (by kernel_rfl) (by kernel_rfl) (by kernel_rfl) ?_
        intro w2 S2
        refine SL.ok (by decide) (OK.run 16 (.slice la len cap) (by kernel_rfl)) ?_
        refine SL.ok (by decide) (OK.run 17 (.int .i64 i) (by kernel_rfl)) ?_
        refine SL.ok (by decide) (OK.index 18 26 1 la p1 len (i).toNat i (p1.add (i).toNat) (by kernel_rfl) (by kernel_rfl) hp1 (by omega) (by omega) (by rw [Nat.mul_one])) ?_
        refine SL.ok (by decide) (OK.ldCell 19 3 (p1.add (i).toNat) (.int .i64 (l.getD (i).toNat 0)) (by kernel_rfl) (by kernel_rfl) (S2.cell hc1)) ?_
        refine SL.ok (by decide) (OK.run 20 (.slice ma mn mc) (by kernel_rfl)) ?_
        refine SL.ok (by decide) (OK.run 21 (.int .i64 i) (by kernel_rfl)) ?_
        refine SL.ok (by decide) (OK.index 22 26 1 ma p2 mn (i).toNat i (p2.add (i).toNat) (by kernel_rfl) (by kernel_rfl) hp2 (by omega) (by omega) (by rw [Nat.mul_one])) ?_
        refine SL.ok (by decide) (OK.ldCell 23 3 (p2.add (i).toNat) (.int .i64 (ml.getD (i).toNat 0)) (by kernel_rfl) (by kernel_rfl) (S2.cell hc2)) ?_
        refine SL.ok (by decide) (OK.run 24 (.bool ((l.getD (i).toNat 0) != (ml.getD (i).toNat 0))) (by kernel_rfl)) ?_
        refine SL.done ?_
        refine TL.done (by kernel_rfl) ?_
        refine J.run 0 (rRest K13_3) [(24, .bool ((l.getD (i).toNat 0) != (ml.getD (i).toNat 0))), (13, .int .i64 i), (12, .int .i64 (len : Int)), (0, .slice la len cap), (1, .slice ma mn mc)] w2 (by kernel_rfl) ?_
        by_cases fk3 : (l.getD (i).toNat 0) = (ml.getD (i).toNat 0)
        · skip
          refine J.head (.bool false) (congrArg Value.bool (bne_eq_false_iff_eq.2 fk3)) ?_
          refine J.run 5 K13_4 [(25, .int .i64 (IntKind.wrap .i64 (i + 1))), (12, .int .i64 (len : Int)), (0, .slice la len cap), (1, .slice ma mn mc)] w2 (by kernel_rfl) ?_
          refine J.head (.int .i64 (i + 1)) (congrArg (Value.int .i64) (IntWalk.i64_in _ (by omega))) ?_
          refine J.run 3 K13_1 [(13, .int .i64 (i + 1)), (12, .int .i64 (len : Int)), (0, .slice la len cap), (1, .slice ma mn mc)] w2 (by kernel_rfl) ?_
          refine J.run 0 K13_1 [(13, .int .i64 (i + 1)), (12, .int .i64 (len : Int)), (0, .slice la len cap), (1, .slice ma mn mc)] w2 (by kernel_rfl) ?_
          exact ih1 _ (show ((len : Int) - (i + 1)).toNat < m from by omega) (i + 1) w2 (by omega) (by omega) (by intro j hj; by_cases e : j = i.toNat; (subst e; exact fk3); exact hq j (by omega)) S2 rfl
        · skip
          refine J.head (.bool true) (congrArg Value.bool (bne_iff_ne.2 fk3)) ?_
          refine J.run 5 K13_5 [(4, .bool false)] w2 (by kernel_rfl) ?_
          refine J.ret Try.f13 [.bool false] Try.func13 ⟨by kernel_rfl, trivial⟩ ?_
          refine hR _ _ ?_
          exact ⟨congrArg Value.bool (beq_at (i := i.toNat) fk3).symm, S2.nil⟩
      · skip
        refine J.head (.bool false) (congrArg Value.bool (decide_eq_false fk2)) ?_
        refine J.run 6 K13_6 [(4, .bool true)] w1 (by kernel_rfl) ?_
        refine J.ret Try.f13 [.bool true] Try.func13 ⟨by kernel_rfl, trivial⟩ ?_
        refine hR _ _ ?_
        exact ⟨congrArg Value.bool (beq_all (by omega) fun j hj => hq j (by omega)).symm, S1.nil⟩
    exact L13_1 _ 0 w (by omega) (by omega) (by intro j hj; simp at hj) S0 rfl
  · skip
    refine J.head (.bool true) (congrArg Value.bool (bne_iff_ne.2 fk1)) ?_
    refine J.run 5 K13_7 [(4, .bool false)] w (by kernel_rfl) ?_
    refine J.ret Try.f13 [.bool false] Try.func13 ⟨by kernel_rfl, trivial⟩ ?_
    refine hR _ _ ?_
    exact ⟨congrArg Value.bool (beq_no hl2 hm2 (by omega)).symm, S0.nil⟩

/-- state and age after so many steps -/
def stF (c : Cht) (l : List Int) : Nat → Int × Int
  | 0 => (c.gStart, 0)
  | k + 1 => (stepS c (stF c l k).1 (stF c l k).2 (l.getD k 0), stepA c (stF c l k).1 (stF c l k).2 (l.getD k 0))
def outF (c : Cht) (l : List Int) (k : Nat) : List Int := (List.range k).map fun j => (stF c l (j + 1)).1
def runE (c : Cht) (l : List Int) : Int := if validC c = false then 1 else if 1000 < l.length then 5 else if (l.any fun x => !insideB c x) then 2 else 0
def runO (c : Cht) (l : List Int) : List Int := if runE c l = 0 then outF c l l.length else []
theorem outF_snoc {c : Cht} {l : List Int} {i s a : Int} (h0 : 0 ≤ i) (hs : s = (stF c l i.toNat).1) (ha : a = (stF c l i.toNat).2) : outF c l (i + 1).toNat = outF c l i.toNat ++ [stepS c s a (l.getD i.toNat 0)] := by
  rw [show (i + 1).toNat = i.toNat + 1 by omega, hs, ha]; unfold outF; rw [List.range_succ, List.map_append]; rfl
theorem stF_next {c : Cht} {l : List Int} {i s a : Int} (h0 : 0 ≤ i) (hs : s = (stF c l i.toNat).1) (ha : a = (stF c l i.toNat).2) : stepS c s a (l.getD i.toNat 0) = (stF c l (i + 1).toNat).1 ∧ stepA c s a (l.getD i.toNat 0) = (stF c l (i + 1).toNat).2 := by
  rw [show (i + 1).toNat = i.toNat + 1 by omega, hs, ha]; exact ⟨rfl, rfl⟩
theorem outF_length (c : Cht) (l : List Int) (k : Nat) : (outF c l k).length = k := by simp [outF]
theorem run_ok {c : Cht} {l : List Int} (h1 : validC c = true) (h2 : l.length ≤ 1000) (h3 : (l.any fun x => !insideB c x) = false) : runE c l = 0 ∧ runO c l = outF c l l.length := by
  have e : runE c l = 0 := by unfold runE; rw [if_neg (by rw [h1]; decide), if_neg (by omega), if_neg (by rw [h3]; decide)]
  exact ⟨e, by unfold runO; rw [if_pos e]⟩
theorem run_err {c : Cht} {l : List Int} {e : Int} (h : runE c l = e) (h0 : e ≠ 0) : runO c l = [] := by unfold runO; rw [if_neg (by omega)]
theorem run_e1 {c : Cht} {l : List Int} (h1 : validC c = false) : runE c l = 1 := by unfold runE; rw [if_pos h1]
theorem run_e5 {c : Cht} {l : List Int} (h1 : validC c = true) (h2 : 1000 < l.length) : runE c l = 5 := by unfold runE; rw [if_neg (by rw [h1]; decide), if_pos h2]
theorem run_e2 {c : Cht} {l : List Int} (h1 : validC c = true) (h2 : l.length ≤ 1000) (h3 : (l.any fun x => !insideB c x) = true) : runE c l = 2 := by unfold runE; rw [if_neg (by rw [h1]; decide), if_neg (by omega), if_pos h3]
theorem any_out {c : Cht} {l : List Int} {i : Int} (h0 : 0 ≤ i) (hi : i < (l.length : Int)) (h : insideB c (l.getD i.toNat 0) = false) : (l.any fun x => !insideB c x) = true := by
  have hi : i.toNat < l.length := by omega
  refine List.any_eq_true.2 ⟨l.getD i.toNat 0, ?_, by rw [h]; rfl⟩
  rw [List.getD_eq_getElem?_getD, List.getElem?_eq_getElem hi]; exact List.getElem_mem hi
theorem none_out {c : Cht} {l : List Int} (h : ∀ j, j < l.length → insideB c (l.getD j 0) = true) : (l.any fun x => !insideB c x) = false := by
  rw [List.any_eq_false]
  intro x hx
  obtain ⟨j, hj, rfl⟩ := List.mem_iff_getElem.1 hx
  have := h j hj
  simp [List.getD, hj] at this
  simp [this]
theorem runE_bounds (c : Cht) (l : List Int) : 0 ≤ runE c l ∧ runE c l ≤ 5 := by
  unfold runE
  split
  · omega
  · split
    · omega
    · split <;> omega
theorem stF_bounds {c : Cht} (h : validC c = true) (l : List Int) (k : Nat) : (0 ≤ (stF c l k).1 ∧ (stF c l k).1 < (c.gStates_n : Int)) ∧ 0 ≤ (stF c l k).2 ∧ (stF c l k).2 ≤ 1000 := by
  induction k with
  | zero => have := validC_facts h; simp [stF]; omega
  | succ k ih => exact step_bounds h _ ih.1 ih.2
theorem hb11 : HasBody Try.prog 11 := fun _ _ => by kernel_rfl
noncomputable def K11_0 : List Item := adv 2 [] (bodyOf Try.f11)
noncomputable def K11_1 : List Item := adv 6 [] (popK K11_0)
noncomputable def K11_2 : List Item := adv 2 [] (popK (popK K11_1))
noncomputable def K11_3 : List Item := adv 9 [false] K11_2
noncomputable def K11_4 : List Item := adv 6 [true] K11_3
noncomputable def K11_5 : List Item := adv 7 [false] K11_3
noncomputable def K11_6 : List Item := adv 1 [] (popK K11_5)
noncomputable def K11_7 : List Item := adv 6 [true] K11_6
noncomputable def K11_8 : List Item := adv 5 [false] K11_6
noncomputable def K11_9 : List Item := adv 1 [] (popK K11_8)
noncomputable def K11_10 : List Item := adv 14 [] (popK (popK K11_9))
noncomputable def K11_11 : List Item := adv 5 [] K11_10
noncomputable def K11_12 : List Item := adv 6 [true] K11_11
noncomputable def K11_13 : List Item := adv 4 [] (popK (popK K11_12))
noncomputable def K11_14 : List Item := adv 1 [] (popK (popK K11_13))
noncomputable def K11_15 : List Item := adv 3 [] (popK K11_14)
noncomputable def K11_16 : List Item := adv 4 [] (popK K11_15)
noncomputable def K11_17 : List Item := adv 5 [] (popK (popK (popK K11_16)))
noncomputable def K11_18 : List Item := adv 8 [false] K11_11
noncomputable def K11_19 : List Item := adv 6 [true] K11_2
set_option maxRecDepth 20000 in
set_option maxHeartbeats 20000000 in
theorem run_any (c : Cht) (la : Option Addr) (len cap : Nat) (l : List Int) (w : World) (hc : chtQ w c) (hI : Ints w la len l) (hlen : len ≤ 9223372036854775807) : Ret Try.prog 11 #[.agg #[.slice c.gStates_a c.gStates_n c.gStates_c, .slice c.gInputs_a c.gInputs_n c.gInputs_c, .int .i64 c.gStart, .slice c.gMoves_a c.gMoves_n c.gMoves_c], .slice la len cap] w (fun v w' => ∃ a2 cap2, v = .tuple #[.slice a2 (runO c l).length cap2, .int .i64 (runE c l)] ∧ Sep w [rowOf encI a2 cap2 3 1 (runO c l)] w') := by
  have S0 := Sep.refl w
  refine Ret.named fun R hR => ?_
  refine Ret.of_J (N := 42) [(0, .agg #[.slice c.gStates_a c.gStates_n c.gStates_c, .slice c.gInputs_a c.gInputs_n c.gInputs_c, .int .i64 c.gStart, .slice c.gMoves_a c.gMoves_n c.gMoves_c]), (1, .slice la len cap)] Try.func11 rfl rfl (Nat.le_of_ble_eq_true (by kernel_rfl)) (by kernel_rfl) ?_
  obtain ⟨q1, q2, q3, q4, q5, q6, q7, q8, q9, q10, _⟩ := id hc
  have ql1 := q2.len_eq
  have ql2 := q5.len_eq
  have ql3 := q9.len_eq
  have hll := hI.len_eq
  refine J.run 2 K11_0 [(0, .agg #[.slice c.gStates_a c.gStates_n c.gStates_c, .slice c.gInputs_a c.gInputs_n c.gInputs_c, .int .i64 c.gStart, .slice c.gMoves_a c.gMoves_n c.gMoves_c]), (1, .slice la len cap)] w (by kernel_rfl) ?_
  refine J.new S0 2 [.slice c.gStates_a c.gStates_n c.gStates_c, .slice c.gInputs_a c.gInputs_n c.gInputs_c, .int .i64 c.gStart, .slice c.gMoves_a c.gMoves_n c.gMoves_c] 25 (by kernel_rfl) ?_
  intro b1 w1 S1
  refine J.run 6 K11_1 [(2, .pointer (some ⟨b1, 0, none⟩)), (1, .slice la len cap)] w1 (by kernel_rfl) ?_
  refine J.ok (OK.ldBox S1 0 10 25 0 (.agg #[.slice c.gStates_a c.gStates_n c.gStates_c, .slice c.gInputs_a c.gInputs_n c.gInputs_c, .int .i64 c.gStart, .slice c.gMoves_a c.gMoves_n c.gMoves_c]) (by kernel_rfl) rfl (by kernel_rfl)) ?_
  refine J.callF 11 19 #[.agg #[.slice c.gStates_a c.gStates_n c.gStates_c, .slice c.gInputs_a c.gInputs_n c.gInputs_c, .int .i64 c.gStart, .slice c.gMoves_a c.gMoves_n c.gMoves_c]] hb19 (by kernel_rfl) (valid_any c _ (chtQ_sep hc S1)) ?_
  rintro _ w2 ⟨rfl, T1⟩
  have S2 : Sep w [box b1 [.slice c.gStates_a c.gStates_n c.gStates_c, .slice c.gInputs_a c.gInputs_n c.gInputs_c, .int .i64 c.gStart, .slice c.gMoves_a c.gMoves_n c.gMoves_c] 25] w2 := S1.trans T1
  clear T1 S1
  refine J.run 2 K11_2 [(12, .bool (!(validC c))), (2, .pointer (some ⟨b1, 0, none⟩)), (1, .slice la len cap)] w2 (by kernel_rfl) ?_
  rcases Bool.eq_false_or_eq_true (validC c) with fk1 | fk1
  · skip
    refine J.head (.bool false) (congrArg Value.bool (by rw [fk1]; rfl)) ?_
    have hvf := validC_facts fk1
    refine J.run 9 K11_3 [(15, .bool (decide ((len : Int) > 1000))), (2, .pointer (some ⟨b1, 0, none⟩)), (1, .slice la len cap)] w2 (by kernel_rfl) ?_
    by_cases fk2 : (len : Int) > 1000
    · skip
      refine J.head (.bool true) (congrArg Value.bool (decide_eq_true fk2)) ?_
      refine J.run 6 K11_4 [(5, .int .i64 5), (4, .slice none 0 0)] w2 (by kernel_rfl) ?_
      refine J.ret Try.f11 [.slice none 0 0, .int .i64 5] Try.func11 ⟨by kernel_rfl, by kernel_rfl, trivial⟩ ?_
      refine hR _ _ ?_
      have e1 := run_e5 (c := c) (l := l) fk1 (by omega)
      have e2 := run_err e1 (by omega)
      exact ⟨none, 0, by rw [tup_two, e1, e2]; rfl, by rw [e2]; exact (S2.nilRow 3 1).pick 0 rfl⟩
    · skip
      refine J.head (.bool false) (congrArg Value.bool (decide_eq_false fk2)) ?_
      refine J.run 7 K11_5 [(17, .func (.func 33) #[] #[.pointer (some ⟨b1, 0, none⟩)]), (16, .slice la len cap), (2, .pointer (some ⟨b1, 0, none⟩)), (1, .slice la len cap)] w2 (by kernel_rfl) ?_
      have hch : chtQ w2 c := (chtQ_sep hc S2)
      refine J.callF 18 25 #[.slice la len cap, .func (.func 33) #[] #[.pointer (some ⟨b1, 0, none⟩)]] hb25 (by kernel_rfl) (containsI1 la len cap l 33 (.pointer (some ⟨b1, 0, none⟩)) (fun x => !insideB c x) _ (hI.sep S2) (by first | omega | (simp; omega)) hb33 (fun i_ w_ hi_ S_ => run1_any c b1 _ w_ (chtQ_sep hch S_) (by first | omega | decide) (box_keep (S2.nth 0 rfl) S_))) ?_
      rintro _ w3 ⟨rfl, T2⟩
      have S3 : Sep w [box b1 [.slice c.gStates_a c.gStates_n c.gStates_c, .slice c.gInputs_a c.gInputs_n c.gInputs_c, .int .i64 c.gStart, .slice c.gMoves_a c.gMoves_n c.gMoves_c] 25] w3 := S2.trans T2
      clear T2 S2
      refine J.run 1 K11_6 [(18, .bool (List.any l (fun x => !insideB c x))), (2, .pointer (some ⟨b1, 0, none⟩)), (1, .slice la len cap)] w3 (by kernel_rfl) ?_
      rcases Bool.eq_false_or_eq_true (List.any l (fun x => !insideB c x)) with fk3 | fk3
      · skip
        refine J.head (.bool true) (congrArg Value.bool fk3) ?_
        refine J.run 6 K11_7 [(5, .int .i64 2), (4, .slice none 0 0)] w3 (by kernel_rfl) ?_
        refine J.ret Try.f11 [.slice none 0 0, .int .i64 2] Try.func11 ⟨by kernel_rfl, by kernel_rfl, trivial⟩ ?_
        refine hR _ _ ?_
        have e1 := run_e2 (c := c) (l := l) fk1 (by omega) fk3
        have e2 := run_err e1 (by omega)
        exact ⟨none, 0, by rw [tup_two, e1, e2]; rfl, by rw [e2]; exact (S3.nilRow 3 1).pick 0 rfl⟩
      · skip
        refine J.head (.bool false) (congrArg Value.bool fk3) ?_
        refine J.run 5 K11_8 [(19, .pointer (some ⟨b1, 2, none⟩)), (2, .pointer (some ⟨b1, 0, none⟩)), (1, .slice la len cap)] w3 (by kernel_rfl) ?_
        refine J.ok (OK.ldBox S3 0 20 3 2 (.int .i64 c.gStart) (by kernel_rfl) rfl (by kernel_rfl)) ?_
        refine J.run 1 K11_9 [(21, .agg #[.int .i64 c.gStart, .int .i64 0]), (2, .pointer (some ⟨b1, 0, none⟩)), (1, .slice la len cap)] w3 (by kernel_rfl) ?_
        refine J.new S3 6 [.int .i64 0, .int .i64 0] 37 (by kernel_rfl) ?_
        intro b2 w4 S4
        refine J.stBox S4 0 37 0 (.agg #[.int .i64 c.gStart, .int .i64 0]) [.int .i64 c.gStart, .int .i64 0] [box b2 [.int .i64 c.gStart, .int .i64 0] 37, box b1 [.slice c.gStates_a c.gStates_n c.gStates_c, .slice c.gInputs_a c.gInputs_n c.gInputs_c, .int .i64 c.gStart, .slice c.gMoves_a c.gMoves_n c.gMoves_c] 25] (by kernel_rfl) rfl (by kernel_rfl) (by kernel_rfl) rfl ?_
        intro w5 S5
        refine J.run 14 K11_10 [(24, .int .i64 0), (23, .int .i64 (len : Int)), (22, .slice la len cap), (7, .slice none 0 0), (6, .pointer (some ⟨b2, 0, none⟩)), (2, .pointer (some ⟨b1, 0, none⟩))] w5 (by kernel_rfl) ?_
        have S6 : Sep w [rowOf encI none 0 3 1 ([]), box b2 [.int .i64 c.gStart, .int .i64 0] 37, box b1 [.slice c.gStates_a c.gStates_n c.gStates_c, .slice c.gInputs_a c.gInputs_n c.gInputs_c, .int .i64 c.gStart, .slice c.gMoves_a c.gMoves_n c.gMoves_c] 25] w5 := S5.nilRow 3 1
        have L11_1 : ∀ (m : Nat) (ra : Option Addr) (rc : Nat) (ls : List Int) (s : Int) (a : Int) (i : Int) (w6 : World), (0 ≤ i) → (i ≤ (len : Int)) → ((ls).length = (i).toNat) → (s = (stF c l (i).toNat).1) → (a = (stF c l (i).toNat).2) → (ls = outF c l (i).toNat) → Sep w [rowOf encI ra rc 3 1 ls, box b2 [.int .i64 s, .int .i64 a] 37, box b1 [.slice c.gStates_a c.gStates_n c.gStates_c, .slice c.gInputs_a c.gInputs_n c.gInputs_c, .int .i64 c.gStart, .slice c.gMoves_a c.gMoves_n c.gMoves_c] 25] w6 → ((len : Int) - i).toNat = m → J Try.prog 11 42 R K11_10 [(24, .int .i64 i), (23, .int .i64 (len : Int)), (22, .slice la len cap), (7, .slice ra ls.length rc), (6, .pointer (some ⟨b2, 0, none⟩)), (2, .pointer (some ⟨b1, 0, none⟩))] w6 := by
          intro m
          induction m using Nat.strongRecOn with
          | _ m ih1 =>
          intro ra rc ls s a i w6 h0 h1 hn hs ha hls S7 hm1
          have hsb := stF_bounds fk1 l i.toNat; rw [← hs, ← ha] at hsb
          refine J.run 5 K11_11 [(25, .bool (decide (i < (len : Int)))), (24, .int .i64 i), (23, .int .i64 (len : Int)), (22, .slice la len cap), (7, .slice ra ls.length rc), (6, .pointer (some ⟨b2, 0, none⟩)), (2, .pointer (some ⟨b1, 0, none⟩))] w6 (by kernel_rfl) ?_
          by_cases fk4 : i < (len : Int)
          · skip
            refine J.head (.bool true) (congrArg Value.bool (decide_eq_true fk4)) ?_
            refine J.run 6 K11_12 [(24, .int .i64 i), (23, .int .i64 (len : Int)), (22, .slice la len cap), (7, .slice ra ls.length rc), (6, .pointer (some ⟨b2, 0, none⟩)), (2, .pointer (some ⟨b1, 0, none⟩))] w6 (by kernel_rfl) ?_
            obtain ⟨p1, hp1, hc1⟩ := hI.at 0 (i).toNat (by omega)
            refine J.ok (OK.index 26 26 1 la p1 len (i).toNat i (p1.add (i).toNat) (by kernel_rfl) (by kernel_rfl) hp1 (by omega) (by omega) (by rw [Nat.mul_one])) ?_
            refine J.ok (OK.ldCell 27 3 (p1.add (i).toNat) (.int .i64 (l.getD (i).toNat 0)) (by kernel_rfl) (by kernel_rfl) (S7.cell hc1)) ?_
            refine J.run 4 K11_13 [(9, .int .i64 (l.getD (i).toNat 0)), (24, .int .i64 i), (23, .int .i64 (len : Int)), (22, .slice la len cap), (7, .slice ra ls.length rc), (6, .pointer (some ⟨b2, 0, none⟩)), (2, .pointer (some ⟨b1, 0, none⟩))] w6 (by kernel_rfl) ?_
            refine J.ok (OK.ldBox S7 2 29 25 0 (.agg #[.slice c.gStates_a c.gStates_n c.gStates_c, .slice c.gInputs_a c.gInputs_n c.gInputs_c, .int .i64 c.gStart, .slice c.gMoves_a c.gMoves_n c.gMoves_c]) (by kernel_rfl) rfl (by kernel_rfl)) ?_
            refine J.ok (OK.ldBox S7 1 30 37 0 (.agg #[.int .i64 s, .int .i64 a]) (by kernel_rfl) rfl (by kernel_rfl)) ?_
            refine J.run 1 K11_14 [(31, .int .i64 (l.getD (i).toNat 0)), (30, .agg #[.int .i64 s, .int .i64 a]), (29, .agg #[.slice c.gStates_a c.gStates_n c.gStates_c, .slice c.gInputs_a c.gInputs_n c.gInputs_c, .int .i64 c.gStart, .slice c.gMoves_a c.gMoves_n c.gMoves_c]), (24, .int .i64 i), (23, .int .i64 (len : Int)), (22, .slice la len cap), (7, .slice ra ls.length rc), (6, .pointer (some ⟨b2, 0, none⟩)), (2, .pointer (some ⟨b1, 0, none⟩))] w6 (by kernel_rfl) ?_
            refine J.callF 32 35 #[.agg #[.slice c.gStates_a c.gStates_n c.gStates_c, .slice c.gInputs_a c.gInputs_n c.gInputs_c, .int .i64 c.gStart, .slice c.gMoves_a c.gMoves_n c.gMoves_c], .agg #[.int .i64 s, .int .i64 a], .int .i64 (l.getD (i).toNat 0)] hb35 (by kernel_rfl) (step_any c s a (l.getD (i).toNat 0) _ (chtQ_sep hc S7) (by omega)) ?_
            rintro _ w7 ⟨rfl, T3⟩
            have S8 : Sep w [rowOf encI ra rc 3 1 ls, box b2 [.int .i64 s, .int .i64 a] 37, box b1 [.slice c.gStates_a c.gStates_n c.gStates_c, .slice c.gInputs_a c.gInputs_n c.gInputs_c, .int .i64 c.gStart, .slice c.gMoves_a c.gMoves_n c.gMoves_c] 25] w7 := S7.trans T3
            clear T3 S7
            have := stepI_bounds c s a (l.getD (i).toNat 0)
            refine J.run 3 K11_15 [(33, .agg #[.int .i64 (stepS c s a (l.getD (i).toNat 0)), .int .i64 (stepA c s a (l.getD (i).toNat 0))]), (24, .int .i64 i), (23, .int .i64 (len : Int)), (22, .slice la len cap), (7, .slice ra ls.length rc), (6, .pointer (some ⟨b2, 0, none⟩)), (2, .pointer (some ⟨b1, 0, none⟩))] w7 (by kernel_rfl) ?_
            refine J.stBox S8 1 37 0 (.agg #[.int .i64 (stepS c s a (l.getD (i).toNat 0)), .int .i64 (stepA c s a (l.getD (i).toNat 0))]) [.int .i64 (stepS c s a (l.getD (i).toNat 0)), .int .i64 (stepA c s a (l.getD (i).toNat 0))] [rowOf encI ra rc 3 1 ls, box b2 [.int .i64 (stepS c s a (l.getD (i).toNat 0)), .int .i64 (stepA c s a (l.getD (i).toNat 0))] 37, box b1 [.slice c.gStates_a c.gStates_n c.gStates_c, .slice c.gInputs_a c.gInputs_n c.gInputs_c, .int .i64 c.gStart, .slice c.gMoves_a c.gMoves_n c.gMoves_c] 25] (by kernel_rfl) rfl (by kernel_rfl) (by kernel_rfl) rfl ?_
            intro w8 S9
            refine J.run 4 K11_16 [(36, .pointer (some ⟨b2, 0, none⟩)), (35, .slice ra ls.length rc), (24, .int .i64 i), (23, .int .i64 (len : Int)), (22, .slice la len cap), (6, .pointer (some ⟨b2, 0, none⟩)), (2, .pointer (some ⟨b1, 0, none⟩))] w8 (by kernel_rfl) ?_
            refine J.ok (OK.ldBox S9 1 37 3 0 (.int .i64 (stepS c s a (l.getD (i).toNat 0))) (by kernel_rfl) rfl (by kernel_rfl)) ?_
            refine J.newSlice S9 38 1 [.int .i64 (stepS c s a (l.getD (i).toNat 0))] 3 (by kernel_rfl) ?_
            intro b3 w9 S10
            refine J.append encI S10 1 ls (stepS c s a (l.getD (i).toNat 0)) 39 26 (.int .i64 0) 8 ⟨b3, 0, none⟩ 1 rfl (by kernel_rfl) (by kernel_rfl) (by kernel_rfl) (by kernel_rfl) (by decide) (box_cells (S10.nth 0 rfl)) (by kernel_rfl) (by kernel_rfl) (⟨by omega, by omega⟩) ?_
            intro ra1 rc1 w10 S11
            replace S11 : Sep w [box b3 [.int .i64 (stepS c s a (l.getD (i).toNat 0))] 3, rowOf encI ra1 rc1 3 1 (ls ++ [stepS c s a (l.getD (i).toNat 0)]), box b2 [.int .i64 (stepS c s a (l.getD (i).toNat 0)), .int .i64 (stepA c s a (l.getD (i).toNat 0))] 37, box b1 [.slice c.gStates_a c.gStates_n c.gStates_c, .slice c.gInputs_a c.gInputs_n c.gInputs_c, .int .i64 c.gStart, .slice c.gMoves_a c.gMoves_n c.gMoves_c] 25] w10 := S11
            have S12 : Sep w [rowOf encI ra1 rc1 3 1 (ls ++ [stepS c s a (l.getD (i).toNat 0)]), box b2 [.int .i64 (stepS c s a (l.getD (i).toNat 0)), .int .i64 (stepA c s a (l.getD (i).toNat 0))] 37, box b1 [.slice c.gStates_a c.gStates_n c.gStates_c, .slice c.gInputs_a c.gInputs_n c.gInputs_c, .int .i64 c.gStart, .slice c.gMoves_a c.gMoves_n c.gMoves_c] 25] w10 := S11.erase 0
            clear S11
            refine J.run 5 K11_17 [(40, .int .i64 (IntKind.wrap .i64 (i + 1))), (7, .slice ra1 ((ls ++ [stepS c s a (l.getD (i).toNat 0)]).length) rc1), (23, .int .i64 (len : Int)), (22, .slice la len cap), (6, .pointer (some ⟨b2, 0, none⟩)), (2, .pointer (some ⟨b1, 0, none⟩))] w10 (by kernel_rfl) ?_
            refine J.head (.int .i64 (i + 1)) (congrArg (Value.int .i64) (IntWalk.i64_in _ (by omega))) ?_
            refine J.run 3 K11_10 [(24, .int .i64 (i + 1)), (7, .slice ra1 ((ls ++ [stepS c s a (l.getD (i).toNat 0)]).length) rc1), (23, .int .i64 (len : Int)), (22, .slice la len cap), (6, .pointer (some ⟨b2, 0, none⟩)), (2, .pointer (some ⟨b1, 0, none⟩))] w10 (by kernel_rfl) ?_
            refine J.run 0 K11_10 [(24, .int .i64 (i + 1)), (23, .int .i64 (len : Int)), (22, .slice la len cap), (7, .slice ra1 ((ls ++ [stepS c s a (l.getD (i).toNat 0)]).length) rc1), (6, .pointer (some ⟨b2, 0, none⟩)), (2, .pointer (some ⟨b1, 0, none⟩))] w10 (by kernel_rfl) ?_
            exact ih1 _ (show ((len : Int) - (i + 1)).toNat < m from by omega) ra1 rc1 (ls ++ [stepS c s a (l.getD (i).toNat 0)]) (stepS c s a (l.getD (i).toNat 0)) (stepA c s a (l.getD (i).toNat 0)) (i + 1) w10 (by omega) (by omega) (by simp; omega) ((stF_next h0 hs ha).1) ((stF_next h0 hs ha).2) (by rw [outF_snoc h0 hs ha, ← hls]) S12 rfl
          · skip
            refine J.head (.bool false) (congrArg Value.bool (decide_eq_false fk4)) ?_
            refine J.run 8 K11_18 [(5, .int .i64 0), (4, .slice ra ls.length rc)] w6 (by kernel_rfl) ?_
            refine J.ret Try.f11 [.slice ra ls.length rc, .int .i64 0] Try.func11 ⟨by kernel_rfl, by kernel_rfl, trivial⟩ ?_
            refine hR _ _ ?_
            obtain ⟨e1, e2⟩ := run_ok (c := c) (l := l) fk1 (by omega) fk3
            have e3 : ls = runO c l := by rw [e2, hls, show i.toNat = l.length by omega]
            subst e3
            exact ⟨ra, rc, by rw [tup_two, e1], S7.pick 0 rfl⟩
        exact L11_1 _ none 0 ([]) c.gStart 0 0 w5 (by omega) (by omega) (rfl) (rfl) (rfl) (rfl) S6 rfl
  · skip
    refine J.head (.bool true) (congrArg Value.bool (by rw [fk1]; rfl)) ?_
    refine J.run 6 K11_19 [(5, .int .i64 1), (4, .slice none 0 0)] w2 (by kernel_rfl) ?_
    refine J.ret Try.f11 [.slice none 0 0, .int .i64 1] Try.func11 ⟨by kernel_rfl, by kernel_rfl, trivial⟩ ?_
    refine hR _ _ ?_
    have e1 := run_e1 (c := c) (l := l) fk1
    have e2 := run_err e1 (by omega)
    exact ⟨none, 0, by rw [tup_two, e1, e2]; rfl, by rw [e2]; exact (S2.nilRow 3 1).pick 0 rfl⟩

theorem hb12 : HasBody Try.prog 12 := fun _ _ => by kernel_rfl
noncomputable def K12_0 : List Item := adv 2 [] (bodyOf Try.f12)
noncomputable def K12_1 : List Item := adv 6 [] (popK K12_0)
noncomputable def K12_2 : List Item := adv 2 [] (popK (popK K12_1))
noncomputable def K12_3 : List Item := adv 9 [false] K12_2
noncomputable def K12_4 : List Item := adv 6 [true] K12_3
noncomputable def K12_5 : List Item := adv 5 [false] K12_3
noncomputable def K12_6 : List Item := adv 1 [] (popK K12_5)
noncomputable def K12_7 : List Item := adv 12 [] (popK (popK K12_6))
noncomputable def K12_8 : List Item := adv 8 [] K12_7
noncomputable def K12_9 : List Item := adv 5 [true] K12_8
noncomputable def K12_10 : List Item := adv 10 [false] (rRest K12_9)
noncomputable def K12_11 : List Item := adv 4 [] (popK (popK K12_10))
noncomputable def K12_12 : List Item := adv 6 [] (popK (popK (popK K12_11)))
noncomputable def K12_13 : List Item := adv 13 [true] (rRest K12_9)
noncomputable def K12_14 : List Item := adv 8 [false] K12_8
noncomputable def K12_15 : List Item := adv 6 [true] K12_2
set_option maxRecDepth 20000 in
set_option maxHeartbeats 20000000 in
theorem rrun_any (c : Cht) (la : Option Addr) (len cap : Nat) (l : List Int) (w : World) (hc : chtQ w c) (hI : Ints w la len l) (hlen : len ≤ 9223372036854775807) : Ret Try.prog 12 #[.agg #[.slice c.gStates_a c.gStates_n c.gStates_c, .slice c.gInputs_a c.gInputs_n c.gInputs_c, .int .i64 c.gStart, .slice c.gMoves_a c.gMoves_n c.gMoves_c], .slice la len cap] w (fun v w' => ∃ a2 cap2, v = .tuple #[.slice a2 (runO c l).length cap2, .int .i64 (runE c l)] ∧ Sep w [rowOf encI a2 cap2 3 1 (runO c l)] w') := by
  have S0 := Sep.refl w
  refine Ret.named fun R hR => ?_
  refine Ret.of_J (N := 48) [(0, .agg #[.slice c.gStates_a c.gStates_n c.gStates_c, .slice c.gInputs_a c.gInputs_n c.gInputs_c, .int .i64 c.gStart, .slice c.gMoves_a c.gMoves_n c.gMoves_c]), (1, .slice la len cap)] Try.func12 rfl rfl (Nat.le_of_ble_eq_true (by kernel_rfl)) (by kernel_rfl) ?_
  obtain ⟨q1, q2, q3, q4, q5, q6, q7, q8, q9, q10, _⟩ := id hc
  have ql1 := q2.len_eq
  have ql2 := q5.len_eq
  have ql3 := q9.len_eq
  have hll := hI.len_eq
  refine J.run 2 K12_0 [(0, .agg #[.slice c.gStates_a c.gStates_n c.gStates_c, .slice c.gInputs_a c.gInputs_n c.gInputs_c, .int .i64 c.gStart, .slice c.gMoves_a c.gMoves_n c.gMoves_c]), (1, .slice la len cap)] w (by kernel_rfl) ?_
  refine J.new S0 2 [.slice c.gStates_a c.gStates_n c.gStates_c, .slice c.gInputs_a c.gInputs_n c.gInputs_c, .int .i64 c.gStart, .slice c.gMoves_a c.gMoves_n c.gMoves_c] 25 (by kernel_rfl) ?_
  intro b1 w1 S1
  refine J.run 6 K12_1 [(2, .pointer (some ⟨b1, 0, none⟩)), (1, .slice la len cap)] w1 (by kernel_rfl) ?_
  refine J.ok (OK.ldBox S1 0 12 25 0 (.agg #[.slice c.gStates_a c.gStates_n c.gStates_c, .slice c.gInputs_a c.gInputs_n c.gInputs_c, .int .i64 c.gStart, .slice c.gMoves_a c.gMoves_n c.gMoves_c]) (by kernel_rfl) rfl (by kernel_rfl)) ?_
  refine J.callF 13 20 #[.agg #[.slice c.gStates_a c.gStates_n c.gStates_c, .slice c.gInputs_a c.gInputs_n c.gInputs_c, .int .i64 c.gStart, .slice c.gMoves_a c.gMoves_n c.gMoves_c]] hb20 (by kernel_rfl) (rvalid_any c _ (chtQ_sep hc S1)) ?_
  rintro _ w2 ⟨rfl, T1⟩
  have S2 : Sep w [box b1 [.slice c.gStates_a c.gStates_n c.gStates_c, .slice c.gInputs_a c.gInputs_n c.gInputs_c, .int .i64 c.gStart, .slice c.gMoves_a c.gMoves_n c.gMoves_c] 25] w2 := S1.trans T1
  clear T1 S1
  refine J.run 2 K12_2 [(14, .bool (!(validC c))), (2, .pointer (some ⟨b1, 0, none⟩)), (1, .slice la len cap)] w2 (by kernel_rfl) ?_
  rcases Bool.eq_false_or_eq_true (validC c) with fk1 | fk1
  · skip
    refine J.head (.bool false) (congrArg Value.bool (by rw [fk1]; rfl)) ?_
    have hvf := validC_facts fk1
    refine J.run 9 K12_3 [(17, .bool (decide ((len : Int) > 1000))), (2, .pointer (some ⟨b1, 0, none⟩)), (1, .slice la len cap)] w2 (by kernel_rfl) ?_
    by_cases fk2 : (len : Int) > 1000
    · skip
      refine J.head (.bool true) (congrArg Value.bool (decide_eq_true fk2)) ?_
      refine J.run 6 K12_4 [(5, .int .i64 5), (4, .slice none 0 0)] w2 (by kernel_rfl) ?_
      refine J.ret Try.f12 [.slice none 0 0, .int .i64 5] Try.func12 ⟨by kernel_rfl, by kernel_rfl, trivial⟩ ?_
      refine hR _ _ ?_
      have e1 := run_e5 (c := c) (l := l) fk1 (by omega)
      have e2 := run_err e1 (by omega)
      exact ⟨none, 0, by rw [tup_two, e1, e2]; rfl, by rw [e2]; exact (S2.nilRow 3 1).pick 0 rfl⟩
    · skip
      refine J.head (.bool false) (congrArg Value.bool (decide_eq_false fk2)) ?_
      refine J.run 5 K12_5 [(18, .pointer (some ⟨b1, 2, none⟩)), (2, .pointer (some ⟨b1, 0, none⟩)), (1, .slice la len cap)] w2 (by kernel_rfl) ?_
      refine J.ok (OK.ldBox S2 0 19 3 2 (.int .i64 c.gStart) (by kernel_rfl) rfl (by kernel_rfl)) ?_
      refine J.run 1 K12_6 [(20, .agg #[.int .i64 c.gStart, .int .i64 0]), (2, .pointer (some ⟨b1, 0, none⟩)), (1, .slice la len cap)] w2 (by kernel_rfl) ?_
      refine J.new S2 6 [.int .i64 0, .int .i64 0] 37 (by kernel_rfl) ?_
      intro b2 w3 S3
      refine J.stBox S3 0 37 0 (.agg #[.int .i64 c.gStart, .int .i64 0]) [.int .i64 c.gStart, .int .i64 0] [box b2 [.int .i64 c.gStart, .int .i64 0] 37, box b1 [.slice c.gStates_a c.gStates_n c.gStates_c, .slice c.gInputs_a c.gInputs_n c.gInputs_c, .int .i64 c.gStart, .slice c.gMoves_a c.gMoves_n c.gMoves_c] 25] (by kernel_rfl) rfl (by kernel_rfl) (by kernel_rfl) rfl ?_
      intro w4 S4
      refine J.run 12 K12_7 [(8, .int .i64 0), (7, .slice none 0 0), (6, .pointer (some ⟨b2, 0, none⟩)), (2, .pointer (some ⟨b1, 0, none⟩)), (1, .slice la len cap)] w4 (by kernel_rfl) ?_
      have S5 : Sep w [rowOf encI none 0 3 1 ([]), box b2 [.int .i64 c.gStart, .int .i64 0] 37, box b1 [.slice c.gStates_a c.gStates_n c.gStates_c, .slice c.gInputs_a c.gInputs_n c.gInputs_c, .int .i64 c.gStart, .slice c.gMoves_a c.gMoves_n c.gMoves_c] 25] w4 := S4.nilRow 3 1
      have L12_1 : ∀ (m : Nat) (ra : Option Addr) (rc : Nat) (ls : List Int) (s : Int) (a : Int) (i : Int) (w5 : World), (0 ≤ i) → (i ≤ (len : Int)) → ((ls).length = (i).toNat) → (s = (stF c l (i).toNat).1) → (a = (stF c l (i).toNat).2) → (ls = outF c l (i).toNat) → (∀ j, j < (i).toNat → insideB c (l.getD j 0) = true) → Sep w [rowOf encI ra rc 3 1 ls, box b2 [.int .i64 s, .int .i64 a] 37, box b1 [.slice c.gStates_a c.gStates_n c.gStates_c, .slice c.gInputs_a c.gInputs_n c.gInputs_c, .int .i64 c.gStart, .slice c.gMoves_a c.gMoves_n c.gMoves_c] 25] w5 → ((len : Int) - i).toNat = m → J Try.prog 12 48 R K12_7 [(8, .int .i64 i), (7, .slice ra ls.length rc), (6, .pointer (some ⟨b2, 0, none⟩)), (2, .pointer (some ⟨b1, 0, none⟩)), (1, .slice la len cap)] w5 := by
        intro m
        induction m using Nat.strongRecOn with
        | _ m ih1 =>
        intro ra rc ls s a i w5 h0 h1 hn hs ha hls hin S6 hm1
        have hsb := stF_bounds fk1 l i.toNat; rw [← hs, ← ha] at hsb
        refine J.run 8 K12_8 [(24, .bool (decide (i < (len : Int)))), (8, .int .i64 i), (7, .slice ra ls.length rc), (6, .pointer (some ⟨b2, 0, none⟩)), (2, .pointer (some ⟨b1, 0, none⟩)), (1, .slice la len cap)] w5 (by kernel_rfl) ?_
        by_cases fk3 : i < (len : Int)
        · skip
          refine J.head (.bool true) (congrArg Value.bool (decide_eq_true fk3)) ?_
          refine J.run 5 K12_9 [(8, .int .i64 i), (7, .slice ra ls.length rc), (6, .pointer (some ⟨b2, 0, none⟩)), (2, .pointer (some ⟨b1, 0, none⟩)), (1, .slice la len cap)] w5 (by kernel_rfl) ?_
          rcases Bool.eq_false_or_eq_true (insideB c (l.getD (i).toNat 0)) with fk4 | fk4
          · skip
            obtain ⟨p1, hp1, hc1⟩ := hI.at 0 (i).toNat (by omega)
            have W1 : ∀ (bd11 : Nat) (w6 : World), Sep w [box bd11 [.int .i64 (stepS c s a (l.getD (i).toNat 0)), .int .i64 (stepA c s a (l.getD (i).toNat 0))] 37, rowOf encI ra rc 3 1 ls, box b2 [.int .i64 s, .int .i64 a] 37, box b1 [.slice c.gStates_a c.gStates_n c.gStates_c, .slice c.gInputs_a c.gInputs_n c.gInputs_c, .int .i64 c.gStart, .slice c.gMoves_a c.gMoves_n c.gMoves_c] 25] w6 → WA Try.prog 12 48 R K12_9 0 #[true, true, true, true, true, true, true, true, true, true, true, true, true, true, true] [(1, .slice la len cap), (2, .pointer (some ⟨b1, 0, none⟩)), (6, .pointer (some ⟨b2, 0, none⟩)), (7, .slice ra ls.length rc), (8, .int .i64 i), (9, .pointer (some ⟨bd11, 0, none⟩)), (10, .int .i64 (stepI c s a (l.getD (i).toNat 0))), (11, .int .i64 0), (27, .tuple #[.agg #[.int .i64 (stepS c s a (l.getD (i).toNat 0)), .int .i64 (stepA c s a (l.getD (i).toNat 0))], .int .i64 (stepI c s a (l.getD (i).toNat 0)), .int .i64 0]), (28, .agg #[.slice c.gStates_a c.gStates_n c.gStates_c, .slice c.gInputs_a c.gInputs_n c.gInputs_c, .int .i64 c.gStart, .slice c.gMoves_a c.gMoves_n c.gMoves_c]), (29, .agg #[.int .i64 s, .int .i64 a]), (30, .slice la len cap), (31, .int .i64 i), (32, .pointer (some (p1.add (i).toNat))), (33, .int .i64 (l.getD (i).toNat 0)), (34, .tuple #[.agg #[.int .i64 (stepS c s a (l.getD (i).toNat 0)), .int .i64 (stepA c s a (l.getD (i).toNat 0))], .int .i64 (stepI c s a (l.getD (i).toNat 0)), .int .i64 0]), (35, .agg #[.int .i64 (stepS c s a (l.getD (i).toNat 0)), .int .i64 (stepA c s a (l.getD (i).toNat 0))]), (36, .int .i64 (stepI c s a (l.getD (i).toNat 0))), (37, .int .i64 0)] w6 := by
              intro bd11 w6 S7
              refine WA.done (by kernel_rfl) ?_
              refine J.run 0 (rRest K12_9) [(1, .slice la len cap), (2, .pointer (some ⟨b1, 0, none⟩)), (6, .pointer (some ⟨b2, 0, none⟩)), (7, .slice ra ls.length rc), (8, .int .i64 i), (9, .pointer (some ⟨bd11, 0, none⟩)), (11, .int .i64 0)] w6 (by kernel_rfl) ?_
              refine J.run 10 K12_10 [(1, .slice la len cap), (2, .pointer (some ⟨b1, 0, none⟩)), (6, .pointer (some ⟨b2, 0, none⟩)), (7, .slice ra ls.length rc), (8, .int .i64 i), (9, .pointer (some ⟨bd11, 0, none⟩))] w6 (by kernel_rfl) ?_
              refine J.ok (OK.ldBox S7 0 41 37 0 (.agg #[.int .i64 (stepS c s a (l.getD (i).toNat 0)), .int .i64 (stepA c s a (l.getD (i).toNat 0))]) (by kernel_rfl) rfl (by kernel_rfl)) ?_
              refine J.stBox S7 2 37 0 (.agg #[.int .i64 (stepS c s a (l.getD (i).toNat 0)), .int .i64 (stepA c s a (l.getD (i).toNat 0))]) [.int .i64 (stepS c s a (l.getD (i).toNat 0)), .int .i64 (stepA c s a (l.getD (i).toNat 0))] [box bd11 [.int .i64 (stepS c s a (l.getD (i).toNat 0)), .int .i64 (stepA c s a (l.getD (i).toNat 0))] 37, rowOf encI ra rc 3 1 ls, box b2 [.int .i64 (stepS c s a (l.getD (i).toNat 0)), .int .i64 (stepA c s a (l.getD (i).toNat 0))] 37, box b1 [.slice c.gStates_a c.gStates_n c.gStates_c, .slice c.gInputs_a c.gInputs_n c.gInputs_c, .int .i64 c.gStart, .slice c.gMoves_a c.gMoves_n c.gMoves_c] 25] (by kernel_rfl) rfl (by kernel_rfl) (by kernel_rfl) rfl ?_
              intro w7 S8
              refine J.run 4 K12_11 [(43, .pointer (some ⟨b2, 0, none⟩)), (42, .slice ra ls.length rc), (1, .slice la len cap), (2, .pointer (some ⟨b1, 0, none⟩)), (6, .pointer (some ⟨b2, 0, none⟩)), (8, .int .i64 i)] w7 (by kernel_rfl) ?_
              refine J.ok (OK.ldBox S8 2 44 3 0 (.int .i64 (stepS c s a (l.getD (i).toNat 0))) (by kernel_rfl) rfl (by kernel_rfl)) ?_
              refine J.newSlice S8 45 1 [.int .i64 (stepS c s a (l.getD (i).toNat 0))] 3 (by kernel_rfl) ?_
              intro b3 w8 S9
              refine J.append encI S9 2 ls (stepS c s a (l.getD (i).toNat 0)) 46 26 (.int .i64 0) 8 ⟨b3, 0, none⟩ 1 rfl (by kernel_rfl) (by kernel_rfl) (by kernel_rfl) (by kernel_rfl) (by decide) (box_cells (S9.nth 0 rfl)) (by kernel_rfl) (by kernel_rfl) (⟨by omega, by omega⟩) ?_
              intro ra1 rc1 w9 S10
              replace S10 : Sep w [box b3 [.int .i64 (stepS c s a (l.getD (i).toNat 0))] 3, box bd11 [.int .i64 (stepS c s a (l.getD (i).toNat 0)), .int .i64 (stepA c s a (l.getD (i).toNat 0))] 37, rowOf encI ra1 rc1 3 1 (ls ++ [stepS c s a (l.getD (i).toNat 0)]), box b2 [.int .i64 (stepS c s a (l.getD (i).toNat 0)), .int .i64 (stepA c s a (l.getD (i).toNat 0))] 37, box b1 [.slice c.gStates_a c.gStates_n c.gStates_c, .slice c.gInputs_a c.gInputs_n c.gInputs_c, .int .i64 c.gStart, .slice c.gMoves_a c.gMoves_n c.gMoves_c] 25] w9 := S10
              have S11 : Sep w [box bd11 [.int .i64 (stepS c s a (l.getD (i).toNat 0)), .int .i64 (stepA c s a (l.getD (i).toNat 0))] 37, rowOf encI ra1 rc1 3 1 (ls ++ [stepS c s a (l.getD (i).toNat 0)]), box b2 [.int .i64 (stepS c s a (l.getD (i).toNat 0)), .int .i64 (stepA c s a (l.getD (i).toNat 0))] 37, box b1 [.slice c.gStates_a c.gStates_n c.gStates_c, .slice c.gInputs_a c.gInputs_n c.gInputs_c, .int .i64 c.gStart, .slice c.gMoves_a c.gMoves_n c.gMoves_c] 25] w9 := S10.erase 0
              clear S10
              refine J.run 6 K12_12 [(26, .int .i64 (IntKind.wrap .i64 (i + 1))), (7, .slice ra1 ((ls ++ [stepS c s a (l.getD (i).toNat 0)]).length) rc1), (1, .slice la len cap), (2, .pointer (some ⟨b1, 0, none⟩)), (6, .pointer (some ⟨b2, 0, none⟩))] w9 (by kernel_rfl) ?_
              refine J.head (.int .i64 (i + 1)) (congrArg (Value.int .i64) (IntWalk.i64_in _ (by omega))) ?_
              refine J.run 3 K12_7 [(8, .int .i64 (i + 1)), (7, .slice ra1 ((ls ++ [stepS c s a (l.getD (i).toNat 0)]).length) rc1), (1, .slice la len cap), (2, .pointer (some ⟨b1, 0, none⟩)), (6, .pointer (some ⟨b2, 0, none⟩))] w9 (by kernel_rfl) ?_
              have S12 : Sep w [rowOf encI ra1 rc1 3 1 (ls ++ [stepS c s a (l.getD (i).toNat 0)]), box b2 [.int .i64 (stepS c s a (l.getD (i).toNat 0)), .int .i64 (stepA c s a (l.getD (i).toNat 0))] 37, box b1 [.slice c.gStates_a c.gStates_n c.gStates_c, .slice c.gInputs_a c.gInputs_n c.gInputs_c, .int .i64 c.gStart, .slice c.gMoves_a c.gMoves_n c.gMoves_c] 25] w9 := S11.erase 0
              clear S11
              refine J.run 0 K12_7 [(8, .int .i64 (i + 1)), (7, .slice ra1 ((ls ++ [stepS c s a (l.getD (i).toNat 0)]).length) rc1), (6, .pointer (some ⟨b2, 0, none⟩)), (2, .pointer (some ⟨b1, 0, none⟩)), (1, .slice la len cap)] w9 (by kernel_rfl) ?_
              exact ih1 _ (show ((len : Int) - (i + 1)).toNat < m from by omega) ra1 rc1 (ls ++ [stepS c s a (l.getD (i).toNat 0)]) (stepS c s a (l.getD (i).toNat 0)) (stepA c s a (l.getD (i).toNat 0)) (i + 1) w9 (by omega) (by omega) (by simp; omega) ((stF_next h0 hs ha).1) ((stF_next h0 hs ha).2) (by rw [outF_snoc h0 hs ha, ← hls]) (by intro j hj; by_cases e : j = i.toNat; (subst e; exact fk4); exact hin j (by omega)) S12 rfl
            have W2 : ∀ (bd11 : Nat) (w10 : World), Sep w [box bd11 [.int .i64 0, .int .i64 0] 37, rowOf encI ra rc 3 1 ls, box b2 [.int .i64 s, .int .i64 a] 37, box b1 [.slice c.gStates_a c.gStates_n c.gStates_c, .slice c.gInputs_a c.gInputs_n c.gInputs_c, .int .i64 c.gStart, .slice c.gMoves_a c.gMoves_n c.gMoves_c] 25] w10 → WA Try.prog 12 48 R K12_9 3 #[true, true, true, true, true, true, true, true, true, true, true, true, false, false, false] [(1, .slice la len cap), (2, .pointer (some ⟨b1, 0, none⟩)), (6, .pointer (some ⟨b2, 0, none⟩)), (7, .slice ra ls.length rc), (8, .int .i64 i), (9, .pointer (some ⟨bd11, 0, none⟩)), (27, .tuple #[.agg #[.int .i64 (stepS c s a (l.getD (i).toNat 0)), .int .i64 (stepA c s a (l.getD (i).toNat 0))], .int .i64 (stepI c s a (l.getD (i).toNat 0)), .int .i64 0]), (28, .agg #[.slice c.gStates_a c.gStates_n c.gStates_c, .slice c.gInputs_a c.gInputs_n c.gInputs_c, .int .i64 c.gStart, .slice c.gMoves_a c.gMoves_n c.gMoves_c]), (29, .agg #[.int .i64 s, .int .i64 a]), (30, .slice la len cap), (31, .int .i64 i), (32, .pointer (some (p1.add (i).toNat))), (33, .int .i64 (l.getD (i).toNat 0)), (34, .tuple #[.agg #[.int .i64 (stepS c s a (l.getD (i).toNat 0)), .int .i64 (stepA c s a (l.getD (i).toNat 0))], .int .i64 (stepI c s a (l.getD (i).toNat 0)), .int .i64 0]), (35, .agg #[.int .i64 (stepS c s a (l.getD (i).toNat 0)), .int .i64 (stepA c s a (l.getD (i).toNat 0))]), (36, .int .i64 (stepI c s a (l.getD (i).toNat 0))), (37, .int .i64 0)] w10 := by
              intro bd11 w10 S13
              refine WA.all [12] (by kernel_rfl) rfl ⟨?_, trivial⟩
              · skip
                refine WO.set #[true, true, true, true, true, true, true, true, true, true, true, true, true, false, false] (by kernel_rfl) ?_
                refine WO.stBox S13 0 37 0 (.agg #[.int .i64 (stepS c s a (l.getD (i).toNat 0)), .int .i64 (stepA c s a (l.getD (i).toNat 0))]) [.int .i64 (stepS c s a (l.getD (i).toNat 0)), .int .i64 (stepA c s a (l.getD (i).toNat 0))] [box bd11 [.int .i64 (stepS c s a (l.getD (i).toNat 0)), .int .i64 (stepA c s a (l.getD (i).toNat 0))] 37, rowOf encI ra rc 3 1 ls, box b2 [.int .i64 s, .int .i64 a] 37, box b1 [.slice c.gStates_a c.gStates_n c.gStates_c, .slice c.gInputs_a c.gInputs_n c.gInputs_c, .int .i64 c.gStart, .slice c.gMoves_a c.gMoves_n c.gMoves_c] 25] (by kernel_rfl) rfl (by kernel_rfl) (by kernel_rfl) rfl ?_
                intro w11 S14
                refine WA.take 13 10 (.int .i64 (stepI c s a (l.getD (i).toNat 0))) #[true, true, true, true, true, true, true, true, true, true, true, true, true, true, false] (by kernel_rfl) (by kernel_rfl) (by kernel_rfl) (fun _ => by kernel_rfl) (by kernel_rfl) ?_
                refine WA.take 14 11 (.int .i64 0) #[true, true, true, true, true, true, true, true, true, true, true, true, true, true, true] (by kernel_rfl) (by kernel_rfl) (by kernel_rfl) (fun _ => by kernel_rfl) (by kernel_rfl) ?_
                refine WA.weaken (env' := [(1, .slice la len cap), (2, .pointer (some ⟨b1, 0, none⟩)), (6, .pointer (some ⟨b2, 0, none⟩)), (7, .slice ra ls.length rc), (8, .int .i64 i), (9, .pointer (some ⟨bd11, 0, none⟩)), (10, .int .i64 (stepI c s a (l.getD (i).toNat 0))), (11, .int .i64 0), (27, .tuple #[.agg #[.int .i64 (stepS c s a (l.getD (i).toNat 0)), .int .i64 (stepA c s a (l.getD (i).toNat 0))], .int .i64 (stepI c s a (l.getD (i).toNat 0)), .int .i64 0]), (28, .agg #[.slice c.gStates_a c.gStates_n c.gStates_c, .slice c.gInputs_a c.gInputs_n c.gInputs_c, .int .i64 c.gStart, .slice c.gMoves_a c.gMoves_n c.gMoves_c]), (29, .agg #[.int .i64 s, .int .i64 a]), (30, .slice la len cap), (31, .int .i64 i), (32, .pointer (some (p1.add (i).toNat))), (33, .int .i64 (l.getD (i).toNat 0)), (34, .tuple #[.agg #[.int .i64 (stepS c s a (l.getD (i).toNat 0)), .int .i64 (stepA c s a (l.getD (i).toNat 0))], .int .i64 (stepI c s a (l.getD (i).toNat 0)), .int .i64 0]), (35, .agg #[.int .i64 (stepS c s a (l.getD (i).toNat 0)), .int .i64 (stepA c s a (l.getD (i).toNat 0))]), (36, .int .i64 (stepI c s a (l.getD (i).toNat 0))), (37, .int .i64 0)]) (by kernel_rfl) ?_
                exact W1 bd11 w11 S14
            have W3 : ∀ (w12 : World), Sep w [rowOf encI ra rc 3 1 ls, box b2 [.int .i64 s, .int .i64 a] 37, box b1 [.slice c.gStates_a c.gStates_n c.gStates_c, .slice c.gInputs_a c.gInputs_n c.gInputs_c, .int .i64 c.gStart, .slice c.gMoves_a c.gMoves_n c.gMoves_c] 25] w12 → WA Try.prog 12 48 R K12_9 4 #[true, true, true, true, true, true, true, true, true, true, true, false, false, false, false] [(1, .slice la len cap), (2, .pointer (some ⟨b1, 0, none⟩)), (6, .pointer (some ⟨b2, 0, none⟩)), (7, .slice ra ls.length rc), (8, .int .i64 i), (27, .tuple #[.agg #[.int .i64 (stepS c s a (l.getD (i).toNat 0)), .int .i64 (stepA c s a (l.getD (i).toNat 0))], .int .i64 (stepI c s a (l.getD (i).toNat 0)), .int .i64 0]), (28, .agg #[.slice c.gStates_a c.gStates_n c.gStates_c, .slice c.gInputs_a c.gInputs_n c.gInputs_c, .int .i64 c.gStart, .slice c.gMoves_a c.gMoves_n c.gMoves_c]), (29, .agg #[.int .i64 s, .int .i64 a]), (30, .slice la len cap), (31, .int .i64 i), (32, .pointer (some (p1.add (i).toNat))), (33, .int .i64 (l.getD (i).toNat 0)), (34, .tuple #[.agg #[.int .i64 (stepS c s a (l.getD (i).toNat 0)), .int .i64 (stepA c s a (l.getD (i).toNat 0))], .int .i64 (stepI c s a (l.getD (i).toNat 0)), .int .i64 0]), (35, .agg #[.int .i64 (stepS c s a (l.getD (i).toNat 0)), .int .i64 (stepA c s a (l.getD (i).toNat 0))]), (36, .int .i64 (stepI c s a (l.getD (i).toNat 0))), (37, .int .i64 0)] w12 := by
              intro w12 S15
              refine WA.all [11] (by kernel_rfl) rfl ⟨?_, trivial⟩
              · skip
                refine WO.set #[true, true, true, true, true, true, true, true, true, true, true, true, false, false, false] (by kernel_rfl) ?_
                refine WO.new S15 9 [.int .i64 0, .int .i64 0] 37 (by kernel_rfl) ?_
                intro bd11 w13 S16
                refine WA.weaken (env' := [(1, .slice la len cap), (2, .pointer (some ⟨b1, 0, none⟩)), (6, .pointer (some ⟨b2, 0, none⟩)), (7, .slice ra ls.length rc), (8, .int .i64 i), (9, .pointer (some ⟨bd11, 0, none⟩)), (27, .tuple #[.agg #[.int .i64 (stepS c s a (l.getD (i).toNat 0)), .int .i64 (stepA c s a (l.getD (i).toNat 0))], .int .i64 (stepI c s a (l.getD (i).toNat 0)), .int .i64 0]), (28, .agg #[.slice c.gStates_a c.gStates_n c.gStates_c, .slice c.gInputs_a c.gInputs_n c.gInputs_c, .int .i64 c.gStart, .slice c.gMoves_a c.gMoves_n c.gMoves_c]), (29, .agg #[.int .i64 s, .int .i64 a]), (30, .slice la len cap), (31, .int .i64 i), (32, .pointer (some (p1.add (i).toNat))), (33, .int .i64 (l.getD (i).toNat 0)), (34, .tuple #[.agg #[.int .i64 (stepS c s a (l.getD (i).toNat 0)), .int .i64 (stepA c s a (l.getD (i).toNat 0))], .int .i64 (stepI c s a (l.getD (i).toNat 0)), .int .i64 0]), (35, .agg #[.int .i64 (stepS c s a (l.getD (i).toNat 0)), .int .i64 (stepA c s a (l.getD (i).toNat 0))]), (36, .int .i64 (stepI c s a (l.getD (i).toNat 0))), (37, .int .i64 0)]) (by kernel_rfl) ?_
                exact W2 bd11 w13 S16
            have W4 : ∀ (bd11 : Nat) (w14 : World), Sep w [box bd11 [.int .i64 0, .int .i64 0] 37, rowOf encI ra rc 3 1 ls, box b2 [.int .i64 s, .int .i64 a] 37, box b1 [.slice c.gStates_a c.gStates_n c.gStates_c, .slice c.gInputs_a c.gInputs_n c.gInputs_c, .int .i64 c.gStart, .slice c.gMoves_a c.gMoves_n c.gMoves_c] 25] w14 → WA Try.prog 12 48 R K12_9 8 #[true, true, true, true, true, true, false, false, false, false, false, true, false, false, false] [(1, .slice la len cap), (2, .pointer (some ⟨b1, 0, none⟩)), (6, .pointer (some ⟨b2, 0, none⟩)), (7, .slice ra ls.length rc), (8, .int .i64 i), (9, .pointer (some ⟨bd11, 0, none⟩)), (28, .agg #[.slice c.gStates_a c.gStates_n c.gStates_c, .slice c.gInputs_a c.gInputs_n c.gInputs_c, .int .i64 c.gStart, .slice c.gMoves_a c.gMoves_n c.gMoves_c]), (29, .agg #[.int .i64 s, .int .i64 a]), (30, .slice la len cap), (31, .int .i64 i), (32, .pointer (some (p1.add (i).toNat))), (33, .int .i64 (l.getD (i).toNat 0))] w14 := by
              intro bd11 w14 S17
              refine WA.all [6] (by kernel_rfl) rfl ⟨?_, trivial⟩
              · skip
                refine WO.set #[true, true, true, true, true, true, true, false, false, false, false, true, false, false, false] (by kernel_rfl) ?_
                have fk5 : (okS c s a) = true := okS_iff.2 (by omega)
                refine WO.callF 34 18 #[.agg #[.slice c.gStates_a c.gStates_n c.gStates_c, .slice c.gInputs_a c.gInputs_n c.gInputs_c, .int .i64 c.gStart, .slice c.gMoves_a c.gMoves_n c.gMoves_c], .agg #[.int .i64 s, .int .i64 a], .int .i64 (l.getD (i).toNat 0)] hb18 (by kernel_rfl) (rstep3_any c s a (l.getD (i).toNat 0) _ (chtQ_sep hc S17)) ?_
                rintro _ w15 ⟨rfl, T2⟩
                have S18 : Sep w [box bd11 [.int .i64 0, .int .i64 0] 37, rowOf encI ra rc 3 1 ls, box b2 [.int .i64 s, .int .i64 a] 37, box b1 [.slice c.gStates_a c.gStates_n c.gStates_c, .slice c.gInputs_a c.gInputs_n c.gInputs_c, .int .i64 c.gStart, .slice c.gMoves_a c.gMoves_n c.gMoves_c] 25] w15 := S17.trans T2
                clear T2 S17
                refine WA.head (.tuple #[.agg #[.int .i64 (stepS c s a (l.getD (i).toNat 0)), .int .i64 (stepA c s a (l.getD (i).toNat 0))], .int .i64 (stepI c s a (l.getD (i).toNat 0)), .int .i64 0]) (by first | (simp only [stepV, fk1, fk5, fk4, reduceCtorEq, ↓reduceIte]; done) | simp [stepV, fk1, fk5, fk4]) ?_
                refine WA.take 7 27 (.tuple #[.agg #[.int .i64 (stepS c s a (l.getD (i).toNat 0)), .int .i64 (stepA c s a (l.getD (i).toNat 0))], .int .i64 (stepI c s a (l.getD (i).toNat 0)), .int .i64 0]) #[true, true, true, true, true, true, true, true, false, false, false, true, false, false, false] (by kernel_rfl) (by kernel_rfl) (by kernel_rfl) (fun _ => by kernel_rfl) (by kernel_rfl) ?_
                refine WA.take 8 35 (.agg #[.int .i64 (stepS c s a (l.getD (i).toNat 0)), .int .i64 (stepA c s a (l.getD (i).toNat 0))]) #[true, true, true, true, true, true, true, true, true, false, false, true, false, false, false] (by kernel_rfl) (by kernel_rfl) (by kernel_rfl) (fun _ => by kernel_rfl) (by kernel_rfl) ?_
                refine WA.take 9 36 (.int .i64 (stepI c s a (l.getD (i).toNat 0))) #[true, true, true, true, true, true, true, true, true, true, false, true, false, false, false] (by kernel_rfl) (by kernel_rfl) (by kernel_rfl) (fun _ => by kernel_rfl) (by kernel_rfl) ?_
                refine WA.take 10 37 (.int .i64 0) #[true, true, true, true, true, true, true, true, true, true, true, true, false, false, false] (by kernel_rfl) (by kernel_rfl) (by kernel_rfl) (fun _ => by kernel_rfl) (by kernel_rfl) ?_
                refine WA.weaken (env' := [(1, .slice la len cap), (2, .pointer (some ⟨b1, 0, none⟩)), (6, .pointer (some ⟨b2, 0, none⟩)), (7, .slice ra ls.length rc), (8, .int .i64 i), (9, .pointer (some ⟨bd11, 0, none⟩)), (27, .tuple #[.agg #[.int .i64 (stepS c s a (l.getD (i).toNat 0)), .int .i64 (stepA c s a (l.getD (i).toNat 0))], .int .i64 (stepI c s a (l.getD (i).toNat 0)), .int .i64 0]), (28, .agg #[.slice c.gStates_a c.gStates_n c.gStates_c, .slice c.gInputs_a c.gInputs_n c.gInputs_c, .int .i64 c.gStart, .slice c.gMoves_a c.gMoves_n c.gMoves_c]), (29, .agg #[.int .i64 s, .int .i64 a]), (30, .slice la len cap), (31, .int .i64 i), (32, .pointer (some (p1.add (i).toNat))), (33, .int .i64 (l.getD (i).toNat 0)), (34, .tuple #[.agg #[.int .i64 (stepS c s a (l.getD (i).toNat 0)), .int .i64 (stepA c s a (l.getD (i).toNat 0))], .int .i64 (stepI c s a (l.getD (i).toNat 0)), .int .i64 0]), (35, .agg #[.int .i64 (stepS c s a (l.getD (i).toNat 0)), .int .i64 (stepA c s a (l.getD (i).toNat 0))]), (36, .int .i64 (stepI c s a (l.getD (i).toNat 0))), (37, .int .i64 0)]) (by kernel_rfl) ?_
                exact W2 bd11 w15 S18
            have W5 : ∀ (bd11 : Nat) (w16 : World), Sep w [box bd11 [.int .i64 0, .int .i64 0] 37, rowOf encI ra rc 3 1 ls, box b2 [.int .i64 s, .int .i64 a] 37, box b1 [.slice c.gStates_a c.gStates_n c.gStates_c, .slice c.gInputs_a c.gInputs_n c.gInputs_c, .int .i64 c.gStart, .slice c.gMoves_a c.gMoves_n c.gMoves_c] 25] w16 → WA Try.prog 12 48 R K12_9 9 #[true, false, true, true, true, true, false, false, false, false, false, true, false, false, false] [(1, .slice la len cap), (2, .pointer (some ⟨b1, 0, none⟩)), (6, .pointer (some ⟨b2, 0, none⟩)), (7, .slice ra ls.length rc), (8, .int .i64 i), (9, .pointer (some ⟨bd11, 0, none⟩)), (28, .agg #[.slice c.gStates_a c.gStates_n c.gStates_c, .slice c.gInputs_a c.gInputs_n c.gInputs_c, .int .i64 c.gStart, .slice c.gMoves_a c.gMoves_n c.gMoves_c]), (30, .slice la len cap), (31, .int .i64 i), (32, .pointer (some (p1.add (i).toNat))), (33, .int .i64 (l.getD (i).toNat 0))] w16 := by
              intro bd11 w16 S19
              refine WA.all [1] (by kernel_rfl) rfl ⟨?_, trivial⟩
              · skip
                refine WO.set #[true, true, true, true, true, true, false, false, false, false, false, true, false, false, false] (by kernel_rfl) ?_
                refine WO.ok (OK.ldBox S19 2 29 37 0 (.agg #[.int .i64 s, .int .i64 a]) (by kernel_rfl) rfl (by kernel_rfl)) ?_
                refine WA.weaken (env' := [(1, .slice la len cap), (2, .pointer (some ⟨b1, 0, none⟩)), (6, .pointer (some ⟨b2, 0, none⟩)), (7, .slice ra ls.length rc), (8, .int .i64 i), (9, .pointer (some ⟨bd11, 0, none⟩)), (28, .agg #[.slice c.gStates_a c.gStates_n c.gStates_c, .slice c.gInputs_a c.gInputs_n c.gInputs_c, .int .i64 c.gStart, .slice c.gMoves_a c.gMoves_n c.gMoves_c]), (29, .agg #[.int .i64 s, .int .i64 a]), (30, .slice la len cap), (31, .int .i64 i), (32, .pointer (some (p1.add (i).toNat))), (33, .int .i64 (l.getD (i).toNat 0))]) (by kernel_rfl) ?_
                exact W4 bd11 w16 S19
            have W6 : ∀ (bd11 : Nat) (w17 : World), Sep w [box bd11 [.int .i64 0, .int .i64 0] 37, rowOf encI ra rc 3 1 ls, box b2 [.int .i64 s, .int .i64 a] 37, box b1 [.slice c.gStates_a c.gStates_n c.gStates_c, .slice c.gInputs_a c.gInputs_n c.gInputs_c, .int .i64 c.gStart, .slice c.gMoves_a c.gMoves_n c.gMoves_c] 25] w17 → WA Try.prog 12 48 R K12_9 9 #[false, true, true, true, true, true, false, false, false, false, false, true, false, false, false] [(1, .slice la len cap), (2, .pointer (some ⟨b1, 0, none⟩)), (6, .pointer (some ⟨b2, 0, none⟩)), (7, .slice ra ls.length rc), (8, .int .i64 i), (9, .pointer (some ⟨bd11, 0, none⟩)), (29, .agg #[.int .i64 s, .int .i64 a]), (30, .slice la len cap), (31, .int .i64 i), (32, .pointer (some (p1.add (i).toNat))), (33, .int .i64 (l.getD (i).toNat 0))] w17 := by
              intro bd11 w17 S20
              refine WA.all [0] (by kernel_rfl) rfl ⟨?_, trivial⟩
              · skip
                refine WO.set #[true, true, true, true, true, true, false, false, false, false, false, true, false, false, false] (by kernel_rfl) ?_
                refine WO.ok (OK.ldBox S20 3 28 25 0 (.agg #[.slice c.gStates_a c.gStates_n c.gStates_c, .slice c.gInputs_a c.gInputs_n c.gInputs_c, .int .i64 c.gStart, .slice c.gMoves_a c.gMoves_n c.gMoves_c]) (by kernel_rfl) rfl (by kernel_rfl)) ?_
                refine WA.weaken (env' := [(1, .slice la len cap), (2, .pointer (some ⟨b1, 0, none⟩)), (6, .pointer (some ⟨b2, 0, none⟩)), (7, .slice ra ls.length rc), (8, .int .i64 i), (9, .pointer (some ⟨bd11, 0, none⟩)), (28, .agg #[.slice c.gStates_a c.gStates_n c.gStates_c, .slice c.gInputs_a c.gInputs_n c.gInputs_c, .int .i64 c.gStart, .slice c.gMoves_a c.gMoves_n c.gMoves_c]), (29, .agg #[.int .i64 s, .int .i64 a]), (30, .slice la len cap), (31, .int .i64 i), (32, .pointer (some (p1.add (i).toNat))), (33, .int .i64 (l.getD (i).toNat 0))]) (by kernel_rfl) ?_
                exact W4 bd11 w17 S20
            have W7 : ∀ (bd11 : Nat) (w18 : World), Sep w [box bd11 [.int .i64 0, .int .i64 0] 37, rowOf encI ra rc 3 1 ls, box b2 [.int .i64 s, .int .i64 a] 37, box b1 [.slice c.gStates_a c.gStates_n c.gStates_c, .slice c.gInputs_a c.gInputs_n c.gInputs_c, .int .i64 c.gStart, .slice c.gMoves_a c.gMoves_n c.gMoves_c] 25] w18 → WA Try.prog 12 48 R K12_9 9 #[true, true, true, true, true, false, false, false, false, false, false, true, false, false, false] [(1, .slice la len cap), (2, .pointer (some ⟨b1, 0, none⟩)), (6, .pointer (some ⟨b2, 0, none⟩)), (7, .slice ra ls.length rc), (8, .int .i64 i), (9, .pointer (some ⟨bd11, 0, none⟩)), (28, .agg #[.slice c.gStates_a c.gStates_n c.gStates_c, .slice c.gInputs_a c.gInputs_n c.gInputs_c, .int .i64 c.gStart, .slice c.gMoves_a c.gMoves_n c.gMoves_c]), (29, .agg #[.int .i64 s, .int .i64 a]), (30, .slice la len cap), (31, .int .i64 i), (32, .pointer (some (p1.add (i).toNat)))] w18 := by
              intro bd11 w18 S21
              refine WA.all [5] (by kernel_rfl) rfl ⟨?_, trivial⟩
              · skip
                refine WO.set #[true, true, true, true, true, true, false, false, false, false, false, true, false, false, false] (by kernel_rfl) ?_
                refine WO.ok (OK.ldCell 33 3 (p1.add (i).toNat) (.int .i64 (l.getD (i).toNat 0)) (by kernel_rfl) (by kernel_rfl) (S21.cell hc1)) ?_
                refine WA.weaken (env' := [(1, .slice la len cap), (2, .pointer (some ⟨b1, 0, none⟩)), (6, .pointer (some ⟨b2, 0, none⟩)), (7, .slice ra ls.length rc), (8, .int .i64 i), (9, .pointer (some ⟨bd11, 0, none⟩)), (28, .agg #[.slice c.gStates_a c.gStates_n c.gStates_c, .slice c.gInputs_a c.gInputs_n c.gInputs_c, .int .i64 c.gStart, .slice c.gMoves_a c.gMoves_n c.gMoves_c]), (29, .agg #[.int .i64 s, .int .i64 a]), (30, .slice la len cap), (31, .int .i64 i), (32, .pointer (some (p1.add (i).toNat))), (33, .int .i64 (l.getD (i).toNat 0))]) (by kernel_rfl) ?_
                exact W4 bd11 w18 S21
            have W8 : ∀ (w19 : World), Sep w [rowOf encI ra rc 3 1 ls, box b2 [.int .i64 s, .int .i64 a] 37, box b1 [.slice c.gStates_a c.gStates_n c.gStates_c, .slice c.gInputs_a c.gInputs_n c.gInputs_c, .int .i64 c.gStart, .slice c.gMoves_a c.gMoves_n c.gMoves_c] 25] w19 → WA Try.prog 12 48 R K12_9 9 #[true, true, true, true, true, true, false, false, false, false, false, false, false, false, false] [(1, .slice la len cap), (2, .pointer (some ⟨b1, 0, none⟩)), (6, .pointer (some ⟨b2, 0, none⟩)), (7, .slice ra ls.length rc), (8, .int .i64 i), (28, .agg #[.slice c.gStates_a c.gStates_n c.gStates_c, .slice c.gInputs_a c.gInputs_n c.gInputs_c, .int .i64 c.gStart, .slice c.gMoves_a c.gMoves_n c.gMoves_c]), (29, .agg #[.int .i64 s, .int .i64 a]), (30, .slice la len cap), (31, .int .i64 i), (32, .pointer (some (p1.add (i).toNat))), (33, .int .i64 (l.getD (i).toNat 0))] w19 := by
              intro w19 S22
              refine WA.all [6, 11] (by kernel_rfl) rfl ⟨?_, ?_, trivial⟩
              · skip
                refine WO.set #[true, true, true, true, true, true, true, false, false, false, false, false, false, false, false] (by kernel_rfl) ?_
                have fk6 : (okS c s a) = true := okS_iff.2 (by omega)
                refine WO.callF 34 18 #[.agg #[.slice c.gStates_a c.gStates_n c.gStates_c, .slice c.gInputs_a c.gInputs_n c.gInputs_c, .int .i64 c.gStart, .slice c.gMoves_a c.gMoves_n c.gMoves_c], .agg #[.int .i64 s, .int .i64 a], .int .i64 (l.getD (i).toNat 0)] hb18 (by kernel_rfl) (rstep3_any c s a (l.getD (i).toNat 0) _ (chtQ_sep hc S22)) ?_
                rintro _ w20 ⟨rfl, T3⟩
                have S23 : Sep w [rowOf encI ra rc 3 1 ls, box b2 [.int .i64 s, .int .i64 a] 37, box b1 [.slice c.gStates_a c.gStates_n c.gStates_c, .slice c.gInputs_a c.gInputs_n c.gInputs_c, .int .i64 c.gStart, .slice c.gMoves_a c.gMoves_n c.gMoves_c] 25] w20 := S22.trans T3
                clear T3 S22
                refine WA.head (.tuple #[.agg #[.int .i64 (stepS c s a (l.getD (i).toNat 0)), .int .i64 (stepA c s a (l.getD (i).toNat 0))], .int .i64 (stepI c s a (l.getD (i).toNat 0)), .int .i64 0]) (by first | (simp only [stepV, fk1, fk6, fk4, reduceCtorEq, ↓reduceIte]; done) | simp [stepV, fk1, fk6, fk4]) ?_
                refine WA.take 7 27 (.tuple #[.agg #[.int .i64 (stepS c s a (l.getD (i).toNat 0)), .int .i64 (stepA c s a (l.getD (i).toNat 0))], .int .i64 (stepI c s a (l.getD (i).toNat 0)), .int .i64 0]) #[true, true, true, true, true, true, true, true, false, false, false, false, false, false, false] (by kernel_rfl) (by kernel_rfl) (by kernel_rfl) (fun _ => by kernel_rfl) (by kernel_rfl) ?_
                refine WA.take 8 35 (.agg #[.int .i64 (stepS c s a (l.getD (i).toNat 0)), .int .i64 (stepA c s a (l.getD (i).toNat 0))]) #[true, true, true, true, true, true, true, true, true, false, false, false, false, false, false] (by kernel_rfl) (by kernel_rfl) (by kernel_rfl) (fun _ => by kernel_rfl) (by kernel_rfl) ?_
                refine WA.take 9 36 (.int .i64 (stepI c s a (l.getD (i).toNat 0))) #[true, true, true, true, true, true, true, true, true, true, false, false, false, false, false] (by kernel_rfl) (by kernel_rfl) (by kernel_rfl) (fun _ => by kernel_rfl) (by kernel_rfl) ?_
                refine WA.take 10 37 (.int .i64 0) #[true, true, true, true, true, true, true, true, true, true, true, false, false, false, false] (by kernel_rfl) (by kernel_rfl) (by kernel_rfl) (fun _ => by kernel_rfl) (by kernel_rfl) ?_
                refine WA.weaken (env' := [(1, .slice la len cap), (2, .pointer (some ⟨b1, 0, none⟩)), (6, .pointer (some ⟨b2, 0, none⟩)), (7, .slice ra ls.length rc), (8, .int .i64 i), (27, .tuple #[.agg #[.int .i64 (stepS c s a (l.getD (i).toNat 0)), .int .i64 (stepA c s a (l.getD (i).toNat 0))], .int .i64 (stepI c s a (l.getD (i).toNat 0)), .int .i64 0]), (28, .agg #[.slice c.gStates_a c.gStates_n c.gStates_c, .slice c.gInputs_a c.gInputs_n c.gInputs_c, .int .i64 c.gStart, .slice c.gMoves_a c.gMoves_n c.gMoves_c]), (29, .agg #[.int .i64 s, .int .i64 a]), (30, .slice la len cap), (31, .int .i64 i), (32, .pointer (some (p1.add (i).toNat))), (33, .int .i64 (l.getD (i).toNat 0)), (34, .tuple #[.agg #[.int .i64 (stepS c s a (l.getD (i).toNat 0)), .int .i64 (stepA c s a (l.getD (i).toNat 0))], .int .i64 (stepI c s a (l.getD (i).toNat 0)), .int .i64 0]), (35, .agg #[.int .i64 (stepS c s a (l.getD (i).toNat 0)), .int .i64 (stepA c s a (l.getD (i).toNat 0))]), (36, .int .i64 (stepI c s a (l.getD (i).toNat 0))), (37, .int .i64 0)]) (by kernel_rfl) ?_
                exact W3 w20 S23
              · skip
                refine WO.set #[true, true, true, true, true, true, false, false, false, false, false, true, false, false, false] (by kernel_rfl) ?_
                refine WO.new S22 9 [.int .i64 0, .int .i64 0] 37 (by kernel_rfl) ?_
                intro bd11 w21 S24
                refine WA.weaken (env' := [(1, .slice la len cap), (2, .pointer (some ⟨b1, 0, none⟩)), (6, .pointer (some ⟨b2, 0, none⟩)), (7, .slice ra ls.length rc), (8, .int .i64 i), (9, .pointer (some ⟨bd11, 0, none⟩)), (28, .agg #[.slice c.gStates_a c.gStates_n c.gStates_c, .slice c.gInputs_a c.gInputs_n c.gInputs_c, .int .i64 c.gStart, .slice c.gMoves_a c.gMoves_n c.gMoves_c]), (29, .agg #[.int .i64 s, .int .i64 a]), (30, .slice la len cap), (31, .int .i64 i), (32, .pointer (some (p1.add (i).toNat))), (33, .int .i64 (l.getD (i).toNat 0))]) (by kernel_rfl) ?_
                exact W4 bd11 w21 S24
            have W9 : ∀ (bd11 : Nat) (w22 : World), Sep w [box bd11 [.int .i64 0, .int .i64 0] 37, rowOf encI ra rc 3 1 ls, box b2 [.int .i64 s, .int .i64 a] 37, box b1 [.slice c.gStates_a c.gStates_n c.gStates_c, .slice c.gInputs_a c.gInputs_n c.gInputs_c, .int .i64 c.gStart, .slice c.gMoves_a c.gMoves_n c.gMoves_c] 25] w22 → WA Try.prog 12 48 R K12_9 10 #[true, false, true, true, true, false, false, false, false, false, false, true, false, false, false] [(1, .slice la len cap), (2, .pointer (some ⟨b1, 0, none⟩)), (6, .pointer (some ⟨b2, 0, none⟩)), (7, .slice ra ls.length rc), (8, .int .i64 i), (9, .pointer (some ⟨bd11, 0, none⟩)), (28, .agg #[.slice c.gStates_a c.gStates_n c.gStates_c, .slice c.gInputs_a c.gInputs_n c.gInputs_c, .int .i64 c.gStart, .slice c.gMoves_a c.gMoves_n c.gMoves_c]), (30, .slice la len cap), (31, .int .i64 i), (32, .pointer (some (p1.add (i).toNat)))] w22 := by
              intro bd11 w22 S25
              refine WA.all [1, 5] (by kernel_rfl) rfl ⟨?_, ?_, trivial⟩
              · skip
                refine WO.set #[true, true, true, true, true, false, false, false, false, false, false, true, false, false, false] (by kernel_rfl) ?_
                refine WO.ok (OK.ldBox S25 2 29 37 0 (.agg #[.int .i64 s, .int .i64 a]) (by kernel_rfl) rfl (by kernel_rfl)) ?_
                refine WA.weaken (env' := [(1, .slice la len cap), (2, .pointer (some ⟨b1, 0, none⟩)), (6, .pointer (some ⟨b2, 0, none⟩)), (7, .slice ra ls.length rc), (8, .int .i64 i), (9, .pointer (some ⟨bd11, 0, none⟩)), (28, .agg #[.slice c.gStates_a c.gStates_n c.gStates_c, .slice c.gInputs_a c.gInputs_n c.gInputs_c, .int .i64 c.gStart, .slice c.gMoves_a c.gMoves_n c.gMoves_c]), (29, .agg #[.int .i64 s, .int .i64 a]), (30, .slice la len cap), (31, .int .i64 i), (32, .pointer (some (p1.add (i).toNat)))]) (by kernel_rfl) ?_
                exact W7 bd11 w22 S25
              · skip
                refine WO.set #[true, false, true, true, true, true, false, false, false, false, false, true, false, false, false] (by kernel_rfl) ?_
                refine WO.ok (OK.ldCell 33 3 (p1.add (i).toNat) (.int .i64 (l.getD (i).toNat 0)) (by kernel_rfl) (by kernel_rfl) (S25.cell hc1)) ?_
                refine WA.weaken (env' := [(1, .slice la len cap), (2, .pointer (some ⟨b1, 0, none⟩)), (6, .pointer (some ⟨b2, 0, none⟩)), (7, .slice ra ls.length rc), (8, .int .i64 i), (9, .pointer (some ⟨bd11, 0, none⟩)), (28, .agg #[.slice c.gStates_a c.gStates_n c.gStates_c, .slice c.gInputs_a c.gInputs_n c.gInputs_c, .int .i64 c.gStart, .slice c.gMoves_a c.gMoves_n c.gMoves_c]), (30, .slice la len cap), (31, .int .i64 i), (32, .pointer (some (p1.add (i).toNat))), (33, .int .i64 (l.getD (i).toNat 0))]) (by kernel_rfl) ?_
                exact W5 bd11 w22 S25
            have W10 : ∀ (bd11 : Nat) (w23 : World), Sep w [box bd11 [.int .i64 0, .int .i64 0] 37, rowOf encI ra rc 3 1 ls, box b2 [.int .i64 s, .int .i64 a] 37, box b1 [.slice c.gStates_a c.gStates_n c.gStates_c, .slice c.gInputs_a c.gInputs_n c.gInputs_c, .int .i64 c.gStart, .slice c.gMoves_a c.gMoves_n c.gMoves_c] 25] w23 → WA Try.prog 12 48 R K12_9 10 #[false, true, true, true, true, false, false, false, false, false, false, true, false, false, false] [(1, .slice la len cap), (2, .pointer (some ⟨b1, 0, none⟩)), (6, .pointer (some ⟨b2, 0, none⟩)), (7, .slice ra ls.length rc), (8, .int .i64 i), (9, .pointer (some ⟨bd11, 0, none⟩)), (29, .agg #[.int .i64 s, .int .i64 a]), (30, .slice la len cap), (31, .int .i64 i), (32, .pointer (some (p1.add (i).toNat)))] w23 := by
              intro bd11 w23 S26
              refine WA.all [0, 5] (by kernel_rfl) rfl ⟨?_, ?_, trivial⟩
              · skip
                refine WO.set #[true, true, true, true, true, false, false, false, false, false, false, true, false, false, false] (by kernel_rfl) ?_
                refine WO.ok (OK.ldBox S26 3 28 25 0 (.agg #[.slice c.gStates_a c.gStates_n c.gStates_c, .slice c.gInputs_a c.gInputs_n c.gInputs_c, .int .i64 c.gStart, .slice c.gMoves_a c.gMoves_n c.gMoves_c]) (by kernel_rfl) rfl (by kernel_rfl)) ?_
                refine WA.weaken (env' := [(1, .slice la len cap), (2, .pointer (some ⟨b1, 0, none⟩)), (6, .pointer (some ⟨b2, 0, none⟩)), (7, .slice ra ls.length rc), (8, .int .i64 i), (9, .pointer (some ⟨bd11, 0, none⟩)), (28, .agg #[.slice c.gStates_a c.gStates_n c.gStates_c, .slice c.gInputs_a c.gInputs_n c.gInputs_c, .int .i64 c.gStart, .slice c.gMoves_a c.gMoves_n c.gMoves_c]), (29, .agg #[.int .i64 s, .int .i64 a]), (30, .slice la len cap), (31, .int .i64 i), (32, .pointer (some (p1.add (i).toNat)))]) (by kernel_rfl) ?_
                exact W7 bd11 w23 S26
              · skip
                refine WO.set #[false, true, true, true, true, true, false, false, false, false, false, true, false, false, false] (by kernel_rfl) ?_
                refine WO.ok (OK.ldCell 33 3 (p1.add (i).toNat) (.int .i64 (l.getD (i).toNat 0)) (by kernel_rfl) (by kernel_rfl) (S26.cell hc1)) ?_
                refine WA.weaken (env' := [(1, .slice la len cap), (2, .pointer (some ⟨b1, 0, none⟩)), (6, .pointer (some ⟨b2, 0, none⟩)), (7, .slice ra ls.length rc), (8, .int .i64 i), (9, .pointer (some ⟨bd11, 0, none⟩)), (29, .agg #[.int .i64 s, .int .i64 a]), (30, .slice la len cap), (31, .int .i64 i), (32, .pointer (some (p1.add (i).toNat))), (33, .int .i64 (l.getD (i).toNat 0))]) (by kernel_rfl) ?_
                exact W6 bd11 w23 S26
            have W11 : ∀ (bd11 : Nat) (w24 : World), Sep w [box bd11 [.int .i64 0, .int .i64 0] 37, rowOf encI ra rc 3 1 ls, box b2 [.int .i64 s, .int .i64 a] 37, box b1 [.slice c.gStates_a c.gStates_n c.gStates_c, .slice c.gInputs_a c.gInputs_n c.gInputs_c, .int .i64 c.gStart, .slice c.gMoves_a c.gMoves_n c.gMoves_c] 25] w24 → WA Try.prog 12 48 R K12_9 10 #[false, false, true, true, true, true, false, false, false, false, false, true, false, false, false] [(1, .slice la len cap), (2, .pointer (some ⟨b1, 0, none⟩)), (6, .pointer (some ⟨b2, 0, none⟩)), (7, .slice ra ls.length rc), (8, .int .i64 i), (9, .pointer (some ⟨bd11, 0, none⟩)), (30, .slice la len cap), (31, .int .i64 i), (32, .pointer (some (p1.add (i).toNat))), (33, .int .i64 (l.getD (i).toNat 0))] w24 := by
              intro bd11 w24 S27
              refine WA.all [0, 1] (by kernel_rfl) rfl ⟨?_, ?_, trivial⟩
              · skip
                refine WO.set #[true, false, true, true, true, true, false, false, false, false, false, true, false, false, false] (by kernel_rfl) ?_
                refine WO.ok (OK.ldBox S27 3 28 25 0 (.agg #[.slice c.gStates_a c.gStates_n c.gStates_c, .slice c.gInputs_a c.gInputs_n c.gInputs_c, .int .i64 c.gStart, .slice c.gMoves_a c.gMoves_n c.gMoves_c]) (by kernel_rfl) rfl (by kernel_rfl)) ?_
                refine WA.weaken (env' := [(1, .slice la len cap), (2, .pointer (some ⟨b1, 0, none⟩)), (6, .pointer (some ⟨b2, 0, none⟩)), (7, .slice ra ls.length rc), (8, .int .i64 i), (9, .pointer (some ⟨bd11, 0, none⟩)), (28, .agg #[.slice c.gStates_a c.gStates_n c.gStates_c, .slice c.gInputs_a c.gInputs_n c.gInputs_c, .int .i64 c.gStart, .slice c.gMoves_a c.gMoves_n c.gMoves_c]), (30, .slice la len cap), (31, .int .i64 i), (32, .pointer (some (p1.add (i).toNat))), (33, .int .i64 (l.getD (i).toNat 0))]) (by kernel_rfl) ?_
                exact W5 bd11 w24 S27
              · skip
                refine WO.set #[false, true, true, true, true, true, false, false, false, false, false, true, false, false, false] (by kernel_rfl) ?_
                refine WO.ok (OK.ldBox S27 2 29 37 0 (.agg #[.int .i64 s, .int .i64 a]) (by kernel_rfl) rfl (by kernel_rfl)) ?_
                refine WA.weaken (env' := [(1, .slice la len cap), (2, .pointer (some ⟨b1, 0, none⟩)), (6, .pointer (some ⟨b2, 0, none⟩)), (7, .slice ra ls.length rc), (8, .int .i64 i), (9, .pointer (some ⟨bd11, 0, none⟩)), (29, .agg #[.int .i64 s, .int .i64 a]), (30, .slice la len cap), (31, .int .i64 i), (32, .pointer (some (p1.add (i).toNat))), (33, .int .i64 (l.getD (i).toNat 0))]) (by kernel_rfl) ?_
                exact W6 bd11 w24 S27
            have W12 : ∀ (w25 : World), Sep w [rowOf encI ra rc 3 1 ls, box b2 [.int .i64 s, .int .i64 a] 37, box b1 [.slice c.gStates_a c.gStates_n c.gStates_c, .slice c.gInputs_a c.gInputs_n c.gInputs_c, .int .i64 c.gStart, .slice c.gMoves_a c.gMoves_n c.gMoves_c] 25] w25 → WA Try.prog 12 48 R K12_9 10 #[true, false, true, true, true, true, false, false, false, false, false, false, false, false, false] [(1, .slice la len cap), (2, .pointer (some ⟨b1, 0, none⟩)), (6, .pointer (some ⟨b2, 0, none⟩)), (7, .slice ra ls.length rc), (8, .int .i64 i), (28, .agg #[.slice c.gStates_a c.gStates_n c.gStates_c, .slice c.gInputs_a c.gInputs_n c.gInputs_c, .int .i64 c.gStart, .slice c.gMoves_a c.gMoves_n c.gMoves_c]), (30, .slice la len cap), (31, .int .i64 i), (32, .pointer (some (p1.add (i).toNat))), (33, .int .i64 (l.getD (i).toNat 0))] w25 := by
              intro w25 S28
              refine WA.all [1, 11] (by kernel_rfl) rfl ⟨?_, ?_, trivial⟩
              · skip
                refine WO.set #[true, true, true, true, true, true, false, false, false, false, false, false, false, false, false] (by kernel_rfl) ?_
                refine WO.ok (OK.ldBox S28 1 29 37 0 (.agg #[.int .i64 s, .int .i64 a]) (by kernel_rfl) rfl (by kernel_rfl)) ?_
                refine WA.weaken (env' := [(1, .slice la len cap), (2, .pointer (some ⟨b1, 0, none⟩)), (6, .pointer (some ⟨b2, 0, none⟩)), (7, .slice ra ls.length rc), (8, .int .i64 i), (28, .agg #[.slice c.gStates_a c.gStates_n c.gStates_c, .slice c.gInputs_a c.gInputs_n c.gInputs_c, .int .i64 c.gStart, .slice c.gMoves_a c.gMoves_n c.gMoves_c]), (29, .agg #[.int .i64 s, .int .i64 a]), (30, .slice la len cap), (31, .int .i64 i), (32, .pointer (some (p1.add (i).toNat))), (33, .int .i64 (l.getD (i).toNat 0))]) (by kernel_rfl) ?_
                exact W8 w25 S28
              · skip
                refine WO.set #[true, false, true, true, true, true, false, false, false, false, false, true, false, false, false] (by kernel_rfl) ?_
                refine WO.new S28 9 [.int .i64 0, .int .i64 0] 37 (by kernel_rfl) ?_
                intro bd11 w26 S29
                refine WA.weaken (env' := [(1, .slice la len cap), (2, .pointer (some ⟨b1, 0, none⟩)), (6, .pointer (some ⟨b2, 0, none⟩)), (7, .slice ra ls.length rc), (8, .int .i64 i), (9, .pointer (some ⟨bd11, 0, none⟩)), (28, .agg #[.slice c.gStates_a c.gStates_n c.gStates_c, .slice c.gInputs_a c.gInputs_n c.gInputs_c, .int .i64 c.gStart, .slice c.gMoves_a c.gMoves_n c.gMoves_c]), (30, .slice la len cap), (31, .int .i64 i), (32, .pointer (some (p1.add (i).toNat))), (33, .int .i64 (l.getD (i).toNat 0))]) (by kernel_rfl) ?_
                exact W5 bd11 w26 S29
            have W13 : ∀ (w27 : World), Sep w [rowOf encI ra rc 3 1 ls, box b2 [.int .i64 s, .int .i64 a] 37, box b1 [.slice c.gStates_a c.gStates_n c.gStates_c, .slice c.gInputs_a c.gInputs_n c.gInputs_c, .int .i64 c.gStart, .slice c.gMoves_a c.gMoves_n c.gMoves_c] 25] w27 → WA Try.prog 12 48 R K12_9 10 #[false, true, true, true, true, true, false, false, false, false, false, false, false, false, false] [(1, .slice la len cap), (2, .pointer (some ⟨b1, 0, none⟩)), (6, .pointer (some ⟨b2, 0, none⟩)), (7, .slice ra ls.length rc), (8, .int .i64 i), (29, .agg #[.int .i64 s, .int .i64 a]), (30, .slice la len cap), (31, .int .i64 i), (32, .pointer (some (p1.add (i).toNat))), (33, .int .i64 (l.getD (i).toNat 0))] w27 := by
              intro w27 S30
              refine WA.all [0, 11] (by kernel_rfl) rfl ⟨?_, ?_, trivial⟩
              · skip
                refine WO.set #[true, true, true, true, true, true, false, false, false, false, false, false, false, false, false] (by kernel_rfl) ?_
                refine WO.ok (OK.ldBox S30 2 28 25 0 (.agg #[.slice c.gStates_a c.gStates_n c.gStates_c, .slice c.gInputs_a c.gInputs_n c.gInputs_c, .int .i64 c.gStart, .slice c.gMoves_a c.gMoves_n c.gMoves_c]) (by kernel_rfl) rfl (by kernel_rfl)) ?_
                refine WA.weaken (env' := [(1, .slice la len cap), (2, .pointer (some ⟨b1, 0, none⟩)), (6, .pointer (some ⟨b2, 0, none⟩)), (7, .slice ra ls.length rc), (8, .int .i64 i), (28, .agg #[.slice c.gStates_a c.gStates_n c.gStates_c, .slice c.gInputs_a c.gInputs_n c.gInputs_c, .int .i64 c.gStart, .slice c.gMoves_a c.gMoves_n c.gMoves_c]), (29, .agg #[.int .i64 s, .int .i64 a]), (30, .slice la len cap), (31, .int .i64 i), (32, .pointer (some (p1.add (i).toNat))), (33, .int .i64 (l.getD (i).toNat 0))]) (by kernel_rfl) ?_
                exact W8 w27 S30
              · skip
                refine WO.set #[false, true, true, true, true, true, false, false, false, false, false, true, false, false, false] (by kernel_rfl) ?_
                refine WO.new S30 9 [.int .i64 0, .int .i64 0] 37 (by kernel_rfl) ?_
                intro bd11 w28 S31
                refine WA.weaken (env' := [(1, .slice la len cap), (2, .pointer (some ⟨b1, 0, none⟩)), (6, .pointer (some ⟨b2, 0, none⟩)), (7, .slice ra ls.length rc), (8, .int .i64 i), (9, .pointer (some ⟨bd11, 0, none⟩)), (29, .agg #[.int .i64 s, .int .i64 a]), (30, .slice la len cap), (31, .int .i64 i), (32, .pointer (some (p1.add (i).toNat))), (33, .int .i64 (l.getD (i).toNat 0))]) (by kernel_rfl) ?_
                exact W6 bd11 w28 S31
            have W14 : ∀ (w29 : World), Sep w [rowOf encI ra rc 3 1 ls, box b2 [.int .i64 s, .int .i64 a] 37, box b1 [.slice c.gStates_a c.gStates_n c.gStates_c, .slice c.gInputs_a c.gInputs_n c.gInputs_c, .int .i64 c.gStart, .slice c.gMoves_a c.gMoves_n c.gMoves_c] 25] w29 → WA Try.prog 12 48 R K12_9 10 #[true, true, true, true, true, false, false, false, false, false, false, false, false, false, false] [(1, .slice la len cap), (2, .pointer (some ⟨b1, 0, none⟩)), (6, .pointer (some ⟨b2, 0, none⟩)), (7, .slice ra ls.length rc), (8, .int .i64 i), (28, .agg #[.slice c.gStates_a c.gStates_n c.gStates_c, .slice c.gInputs_a c.gInputs_n c.gInputs_c, .int .i64 c.gStart, .slice c.gMoves_a c.gMoves_n c.gMoves_c]), (29, .agg #[.int .i64 s, .int .i64 a]), (30, .slice la len cap), (31, .int .i64 i), (32, .pointer (some (p1.add (i).toNat)))] w29 := by
              intro w29 S32
              refine WA.all [5, 11] (by kernel_rfl) rfl ⟨?_, ?_, trivial⟩
              · skip
                refine WO.set #[true, true, true, true, true, true, false, false, false, false, false, false, false, false, false] (by kernel_rfl) ?_
                refine WO.ok (OK.ldCell 33 3 (p1.add (i).toNat) (.int .i64 (l.getD (i).toNat 0)) (by kernel_rfl) (by kernel_rfl) (S32.cell hc1)) ?_
                refine WA.weaken (env' := [(1, .slice la len cap), (2, .pointer (some ⟨b1, 0, none⟩)), (6, .pointer (some ⟨b2, 0, none⟩)), (7, .slice ra ls.length rc), (8, .int .i64 i), (28, .agg #[.slice c.gStates_a c.gStates_n c.gStates_c, .slice c.gInputs_a c.gInputs_n c.gInputs_c, .int .i64 c.gStart, .slice c.gMoves_a c.gMoves_n c.gMoves_c]), (29, .agg #[.int .i64 s, .int .i64 a]), (30, .slice la len cap), (31, .int .i64 i), (32, .pointer (some (p1.add (i).toNat))), (33, .int .i64 (l.getD (i).toNat 0))]) (by kernel_rfl) ?_
                exact W8 w29 S32
              · skip
                refine WO.set #[true, true, true, true, true, false, false, false, false, false, false, true, false, false, false] (by kernel_rfl) ?_
                refine WO.new S32 9 [.int .i64 0, .int .i64 0] 37 (by kernel_rfl) ?_
                intro bd11 w30 S33
                refine WA.weaken (env' := [(1, .slice la len cap), (2, .pointer (some ⟨b1, 0, none⟩)), (6, .pointer (some ⟨b2, 0, none⟩)), (7, .slice ra ls.length rc), (8, .int .i64 i), (9, .pointer (some ⟨bd11, 0, none⟩)), (28, .agg #[.slice c.gStates_a c.gStates_n c.gStates_c, .slice c.gInputs_a c.gInputs_n c.gInputs_c, .int .i64 c.gStart, .slice c.gMoves_a c.gMoves_n c.gMoves_c]), (29, .agg #[.int .i64 s, .int .i64 a]), (30, .slice la len cap), (31, .int .i64 i), (32, .pointer (some (p1.add (i).toNat)))]) (by kernel_rfl) ?_
                exact W7 bd11 w30 S33
            have W15 : ∀ (w31 : World), Sep w [rowOf encI ra rc 3 1 ls, box b2 [.int .i64 s, .int .i64 a] 37, box b1 [.slice c.gStates_a c.gStates_n c.gStates_c, .slice c.gInputs_a c.gInputs_n c.gInputs_c, .int .i64 c.gStart, .slice c.gMoves_a c.gMoves_n c.gMoves_c] 25] w31 → WA Try.prog 12 48 R K12_9 11 #[true, false, true, true, true, false, false, false, false, false, false, false, false, false, false] [(1, .slice la len cap), (2, .pointer (some ⟨b1, 0, none⟩)), (6, .pointer (some ⟨b2, 0, none⟩)), (7, .slice ra ls.length rc), (8, .int .i64 i), (28, .agg #[.slice c.gStates_a c.gStates_n c.gStates_c, .slice c.gInputs_a c.gInputs_n c.gInputs_c, .int .i64 c.gStart, .slice c.gMoves_a c.gMoves_n c.gMoves_c]), (30, .slice la len cap), (31, .int .i64 i), (32, .pointer (some (p1.add (i).toNat)))] w31 := by
              intro w31 S34
              refine WA.all [1, 5, 11] (by kernel_rfl) rfl ⟨?_, ?_, ?_, trivial⟩
              · skip
                refine WO.set #[true, true, true, true, true, false, false, false, false, false, false, false, false, false, false] (by kernel_rfl) ?_
                refine WO.ok (OK.ldBox S34 1 29 37 0 (.agg #[.int .i64 s, .int .i64 a]) (by kernel_rfl) rfl (by kernel_rfl)) ?_
                refine WA.weaken (env' := [(1, .slice la len cap), (2, .pointer (some ⟨b1, 0, none⟩)), (6, .pointer (some ⟨b2, 0, none⟩)), (7, .slice ra ls.length rc), (8, .int .i64 i), (28, .agg #[.slice c.gStates_a c.gStates_n c.gStates_c, .slice c.gInputs_a c.gInputs_n c.gInputs_c, .int .i64 c.gStart, .slice c.gMoves_a c.gMoves_n c.gMoves_c]), (29, .agg #[.int .i64 s, .int .i64 a]), (30, .slice la len cap), (31, .int .i64 i), (32, .pointer (some (p1.add (i).toNat)))]) (by kernel_rfl) ?_
                exact W14 w31 S34
              · skip
                refine WO.set #[true, false, true, true, true, true, false, false, false, false, false, false, false, false, false] (by kernel_rfl) ?_
                refine WO.ok (OK.ldCell 33 3 (p1.add (i).toNat) (.int .i64 (l.getD (i).toNat 0)) (by kernel_rfl) (by kernel_rfl) (S34.cell hc1)) ?_
                refine WA.weaken (env' := [(1, .slice la len cap), (2, .pointer (some ⟨b1, 0, none⟩)), (6, .pointer (some ⟨b2, 0, none⟩)), (7, .slice ra ls.length rc), (8, .int .i64 i), (28, .agg #[.slice c.gStates_a c.gStates_n c.gStates_c, .slice c.gInputs_a c.gInputs_n c.gInputs_c, .int .i64 c.gStart, .slice c.gMoves_a c.gMoves_n c.gMoves_c]), (30, .slice la len cap), (31, .int .i64 i), (32, .pointer (some (p1.add (i).toNat))), (33, .int .i64 (l.getD (i).toNat 0))]) (by kernel_rfl) ?_
                exact W12 w31 S34
              · skip
                refine WO.set #[true, false, true, true, true, false, false, false, false, false, false, true, false, false, false] (by kernel_rfl) ?_
                refine WO.new S34 9 [.int .i64 0, .int .i64 0] 37 (by kernel_rfl) ?_
                intro bd11 w32 S35
                refine WA.weaken (env' := [(1, .slice la len cap), (2, .pointer (some ⟨b1, 0, none⟩)), (6, .pointer (some ⟨b2, 0, none⟩)), (7, .slice ra ls.length rc), (8, .int .i64 i), (9, .pointer (some ⟨bd11, 0, none⟩)), (28, .agg #[.slice c.gStates_a c.gStates_n c.gStates_c, .slice c.gInputs_a c.gInputs_n c.gInputs_c, .int .i64 c.gStart, .slice c.gMoves_a c.gMoves_n c.gMoves_c]), (30, .slice la len cap), (31, .int .i64 i), (32, .pointer (some (p1.add (i).toNat)))]) (by kernel_rfl) ?_
                exact W9 bd11 w32 S35
            have W16 : ∀ (w33 : World), Sep w [rowOf encI ra rc 3 1 ls, box b2 [.int .i64 s, .int .i64 a] 37, box b1 [.slice c.gStates_a c.gStates_n c.gStates_c, .slice c.gInputs_a c.gInputs_n c.gInputs_c, .int .i64 c.gStart, .slice c.gMoves_a c.gMoves_n c.gMoves_c] 25] w33 → WA Try.prog 12 48 R K12_9 11 #[false, true, true, true, true, false, false, false, false, false, false, false, false, false, false] [(1, .slice la len cap), (2, .pointer (some ⟨b1, 0, none⟩)), (6, .pointer (some ⟨b2, 0, none⟩)), (7, .slice ra ls.length rc), (8, .int .i64 i), (29, .agg #[.int .i64 s, .int .i64 a]), (30, .slice la len cap), (31, .int .i64 i), (32, .pointer (some (p1.add (i).toNat)))] w33 := by
              intro w33 S36
              refine WA.all [0, 5, 11] (by kernel_rfl) rfl ⟨?_, ?_, ?_, trivial⟩
              · skip
                refine WO.set #[true, true, true, true, true, false, false, false, false, false, false, false, false, false, false] (by kernel_rfl) ?_
                refine WO.ok (OK.ldBox S36 2 28 25 0 (.agg #[.slice c.gStates_a c.gStates_n c.gStates_c, .slice c.gInputs_a c.gInputs_n c.gInputs_c, .int .i64 c.gStart, .slice c.gMoves_a c.gMoves_n c.gMoves_c]) (by kernel_rfl) rfl (by kernel_rfl)) ?_
                refine WA.weaken (env' := [(1, .slice la len cap), (2, .pointer (some ⟨b1, 0, none⟩)), (6, .pointer (some ⟨b2, 0, none⟩)), (7, .slice ra ls.length rc), (8, .int .i64 i), (28, .agg #[.slice c.gStates_a c.gStates_n c.gStates_c, .slice c.gInputs_a c.gInputs_n c.gInputs_c, .int .i64 c.gStart, .slice c.gMoves_a c.gMoves_n c.gMoves_c]), (29, .agg #[.int .i64 s, .int .i64 a]), (30, .slice la len cap), (31, .int .i64 i), (32, .pointer (some (p1.add (i).toNat)))]) (by kernel_rfl) ?_
                exact W14 w33 S36
              · skip
                refine WO.set #[false, true, true, true, true, true, false, false, false, false, false, false, false, false, false] (by kernel_rfl) ?_
                refine WO.ok (OK.ldCell 33 3 (p1.add (i).toNat) (.int .i64 (l.getD (i).toNat 0)) (by kernel_rfl) (by kernel_rfl) (S36.cell hc1)) ?_
                refine WA.weaken (env' := [(1, .slice la len cap), (2, .pointer (some ⟨b1, 0, none⟩)), (6, .pointer (some ⟨b2, 0, none⟩)), (7, .slice ra ls.length rc), (8, .int .i64 i), (29, .agg #[.int .i64 s, .int .i64 a]), (30, .slice la len cap), (31, .int .i64 i), (32, .pointer (some (p1.add (i).toNat))), (33, .int .i64 (l.getD (i).toNat 0))]) (by kernel_rfl) ?_
                exact W13 w33 S36
              · skip
                refine WO.set #[false, true, true, true, true, false, false, false, false, false, false, true, false, false, false] (by kernel_rfl) ?_
                refine WO.new S36 9 [.int .i64 0, .int .i64 0] 37 (by kernel_rfl) ?_
                intro bd11 w34 S37
                refine WA.weaken (env' := [(1, .slice la len cap), (2, .pointer (some ⟨b1, 0, none⟩)), (6, .pointer (some ⟨b2, 0, none⟩)), (7, .slice ra ls.length rc), (8, .int .i64 i), (9, .pointer (some ⟨bd11, 0, none⟩)), (29, .agg #[.int .i64 s, .int .i64 a]), (30, .slice la len cap), (31, .int .i64 i), (32, .pointer (some (p1.add (i).toNat)))]) (by kernel_rfl) ?_
                exact W10 bd11 w34 S37
            have W17 : ∀ (w35 : World), Sep w [rowOf encI ra rc 3 1 ls, box b2 [.int .i64 s, .int .i64 a] 37, box b1 [.slice c.gStates_a c.gStates_n c.gStates_c, .slice c.gInputs_a c.gInputs_n c.gInputs_c, .int .i64 c.gStart, .slice c.gMoves_a c.gMoves_n c.gMoves_c] 25] w35 → WA Try.prog 12 48 R K12_9 11 #[false, false, true, true, true, true, false, false, false, false, false, false, false, false, false] [(1, .slice la len cap), (2, .pointer (some ⟨b1, 0, none⟩)), (6, .pointer (some ⟨b2, 0, none⟩)), (7, .slice ra ls.length rc), (8, .int .i64 i), (30, .slice la len cap), (31, .int .i64 i), (32, .pointer (some (p1.add (i).toNat))), (33, .int .i64 (l.getD (i).toNat 0))] w35 := by
              intro w35 S38
              refine WA.all [0, 1, 11] (by kernel_rfl) rfl ⟨?_, ?_, ?_, trivial⟩
              · skip
                refine WO.set #[true, false, true, true, true, true, false, false, false, false, false, false, false, false, false] (by kernel_rfl) ?_
                refine WO.ok (OK.ldBox S38 2 28 25 0 (.agg #[.slice c.gStates_a c.gStates_n c.gStates_c, .slice c.gInputs_a c.gInputs_n c.gInputs_c, .int .i64 c.gStart, .slice c.gMoves_a c.gMoves_n c.gMoves_c]) (by kernel_rfl) rfl (by kernel_rfl)) ?_
                refine WA.weaken (env' := [(1, .slice la len cap), (2, .pointer (some ⟨b1, 0, none⟩)), (6, .pointer (some ⟨b2, 0, none⟩)), (7, .slice ra ls.length rc), (8, .int .i64 i), (28, .agg #[.slice c.gStates_a c.gStates_n c.gStates_c, .slice c.gInputs_a c.gInputs_n c.gInputs_c, .int .i64 c.gStart, .slice c.gMoves_a c.gMoves_n c.gMoves_c]), (30, .slice la len cap), (31, .int .i64 i), (32, .pointer (some (p1.add (i).toNat))), (33, .int .i64 (l.getD (i).toNat 0))]) (by kernel_rfl) ?_
                exact W12 w35 S38
              · skip
                refine WO.set #[false, true, true, true, true, true, false, false, false, false, false, false, false, false, false] (by kernel_rfl) ?_
                refine WO.ok (OK.ldBox S38 1 29 37 0 (.agg #[.int .i64 s, .int .i64 a]) (by kernel_rfl) rfl (by kernel_rfl)) ?_
                refine WA.weaken (env' := [(1, .slice la len cap), (2, .pointer (some ⟨b1, 0, none⟩)), (6, .pointer (some ⟨b2, 0, none⟩)), (7, .slice ra ls.length rc), (8, .int .i64 i), (29, .agg #[.int .i64 s, .int .i64 a]), (30, .slice la len cap), (31, .int .i64 i), (32, .pointer (some (p1.add (i).toNat))), (33, .int .i64 (l.getD (i).toNat 0))]) (by kernel_rfl) ?_
                exact W13 w35 S38
              · skip
                refine WO.set #[false, false, true, true, true, true, false, false, false, false, false, true, false, false, false] (by kernel_rfl) ?_
                refine WO.new S38 9 [.int .i64 0, .int .i64 0] 37 (by kernel_rfl) ?_
                intro bd11 w36 S39
                refine WA.weaken (env' := [(1, .slice la len cap), (2, .pointer (some ⟨b1, 0, none⟩)), (6, .pointer (some ⟨b2, 0, none⟩)), (7, .slice ra ls.length rc), (8, .int .i64 i), (9, .pointer (some ⟨bd11, 0, none⟩)), (30, .slice la len cap), (31, .int .i64 i), (32, .pointer (some (p1.add (i).toNat))), (33, .int .i64 (l.getD (i).toNat 0))]) (by kernel_rfl) ?_
                exact W11 bd11 w36 S39
            have W18 : ∀ (bd11 : Nat) (w37 : World), Sep w [box bd11 [.int .i64 0, .int .i64 0] 37, rowOf encI ra rc 3 1 ls, box b2 [.int .i64 s, .int .i64 a] 37, box b1 [.slice c.gStates_a c.gStates_n c.gStates_c, .slice c.gInputs_a c.gInputs_n c.gInputs_c, .int .i64 c.gStart, .slice c.gMoves_a c.gMoves_n c.gMoves_c] 25] w37 → WA Try.prog 12 48 R K12_9 11 #[false, false, true, true, true, false, false, false, false, false, false, true, false, false, false] [(1, .slice la len cap), (2, .pointer (some ⟨b1, 0, none⟩)), (6, .pointer (some ⟨b2, 0, none⟩)), (7, .slice ra ls.length rc), (8, .int .i64 i), (9, .pointer (some ⟨bd11, 0, none⟩)), (30, .slice la len cap), (31, .int .i64 i), (32, .pointer (some (p1.add (i).toNat)))] w37 := by
              intro bd11 w37 S40
              refine WA.all [0, 1, 5] (by kernel_rfl) rfl ⟨?_, ?_, ?_, trivial⟩
              · skip
                refine WO.set #[true, false, true, true, true, false, false, false, false, false, false, true, false, false, false] (by kernel_rfl) ?_
                refine WO.ok (OK.ldBox S40 3 28 25 0 (.agg #[.slice c.gStates_a c.gStates_n c.gStates_c, .slice c.gInputs_a c.gInputs_n c.gInputs_c, .int .i64 c.gStart, .slice c.gMoves_a c.gMoves_n c.gMoves_c]) (by kernel_rfl) rfl (by kernel_rfl)) ?_
                refine WA.weaken (env' := [(1, .slice la len cap), (2, .pointer (some ⟨b1, 0, none⟩)), (6, .pointer (some ⟨b2, 0, none⟩)), (7, .slice ra ls.length rc), (8, .int .i64 i), (9, .pointer (some ⟨bd11, 0, none⟩)), (28, .agg #[.slice c.gStates_a c.gStates_n c.gStates_c, .slice c.gInputs_a c.gInputs_n c.gInputs_c, .int .i64 c.gStart, .slice c.gMoves_a c.gMoves_n c.gMoves_c]), (30, .slice la len cap), (31, .int .i64 i), (32, .pointer (some (p1.add (i).toNat)))]) (by kernel_rfl) ?_
                exact W9 bd11 w37 S40
              · skip
                refine WO.set #[false, true, true, true, true, false, false, false, false, false, false, true, false, false, false] (by kernel_rfl) ?_
                refine WO.ok (OK.ldBox S40 2 29 37 0 (.agg #[.int .i64 s, .int .i64 a]) (by kernel_rfl) rfl (by kernel_rfl)) ?_
                refine WA.weaken (env' := [(1, .slice la len cap), (2, .pointer (some ⟨b1, 0, none⟩)), (6, .pointer (some ⟨b2, 0, none⟩)), (7, .slice ra ls.length rc), (8, .int .i64 i), (9, .pointer (some ⟨bd11, 0, none⟩)), (29, .agg #[.int .i64 s, .int .i64 a]), (30, .slice la len cap), (31, .int .i64 i), (32, .pointer (some (p1.add (i).toNat)))]) (by kernel_rfl) ?_
                exact W10 bd11 w37 S40
              · skip
                refine WO.set #[false, false, true, true, true, true, false, false, false, false, false, true, false, false, false] (by kernel_rfl) ?_
                refine WO.ok (OK.ldCell 33 3 (p1.add (i).toNat) (.int .i64 (l.getD (i).toNat 0)) (by kernel_rfl) (by kernel_rfl) (S40.cell hc1)) ?_
                refine WA.weaken (env' := [(1, .slice la len cap), (2, .pointer (some ⟨b1, 0, none⟩)), (6, .pointer (some ⟨b2, 0, none⟩)), (7, .slice ra ls.length rc), (8, .int .i64 i), (9, .pointer (some ⟨bd11, 0, none⟩)), (30, .slice la len cap), (31, .int .i64 i), (32, .pointer (some (p1.add (i).toNat))), (33, .int .i64 (l.getD (i).toNat 0))]) (by kernel_rfl) ?_
                exact W11 bd11 w37 S40
            have W19 : ∀ (w38 : World), Sep w [rowOf encI ra rc 3 1 ls, box b2 [.int .i64 s, .int .i64 a] 37, box b1 [.slice c.gStates_a c.gStates_n c.gStates_c, .slice c.gInputs_a c.gInputs_n c.gInputs_c, .int .i64 c.gStart, .slice c.gMoves_a c.gMoves_n c.gMoves_c] 25] w38 → WA Try.prog 12 48 R K12_9 12 #[false, false, true, true, true, false, false, false, false, false, false, false, false, false, false] [(1, .slice la len cap), (2, .pointer (some ⟨b1, 0, none⟩)), (6, .pointer (some ⟨b2, 0, none⟩)), (7, .slice ra ls.length rc), (8, .int .i64 i), (30, .slice la len cap), (31, .int .i64 i), (32, .pointer (some (p1.add (i).toNat)))] w38 := by
              intro w38 S41
              refine WA.all [0, 1, 5, 11] (by kernel_rfl) rfl ⟨?_, ?_, ?_, ?_, trivial⟩
              · skip
                refine WO.set #[true, false, true, true, true, false, false, false, false, false, false, false, false, false, false] (by kernel_rfl) ?_
                refine WO.ok (OK.ldBox S41 2 28 25 0 (.agg #[.slice c.gStates_a c.gStates_n c.gStates_c, .slice c.gInputs_a c.gInputs_n c.gInputs_c, .int .i64 c.gStart, .slice c.gMoves_a c.gMoves_n c.gMoves_c]) (by kernel_rfl) rfl (by kernel_rfl)) ?_
                refine WA.weaken (env' := [(1, .slice la len cap), (2, .pointer (some ⟨b1, 0, none⟩)), (6, .pointer (some ⟨b2, 0, none⟩)), (7, .slice ra ls.length rc), (8, .int .i64 i), (28, .agg #[.slice c.gStates_a c.gStates_n c.gStates_c, .slice c.gInputs_a c.gInputs_n c.gInputs_c, .int .i64 c.gStart, .slice c.gMoves_a c.gMoves_n c.gMoves_c]), (30, .slice la len cap), (31, .int .i64 i), (32, .pointer (some (p1.add (i).toNat)))]) (by kernel_rfl) ?_
                exact W15 w38 S41
              · skip
                refine WO.set #[false, true, true, true, true, false, false, false, false, false, false, false, false, false, false] (by kernel_rfl) ?_
                refine WO.ok (OK.ldBox S41 1 29 37 0 (.agg #[.int .i64 s, .int .i64 a]) (by kernel_rfl) rfl (by kernel_rfl)) ?_
                refine WA.weaken (env' := [(1, .slice la len cap), (2, .pointer (some ⟨b1, 0, none⟩)), (6, .pointer (some ⟨b2, 0, none⟩)), (7, .slice ra ls.length rc), (8, .int .i64 i), (29, .agg #[.int .i64 s, .int .i64 a]), (30, .slice la len cap), (31, .int .i64 i), (32, .pointer (some (p1.add (i).toNat)))]) (by kernel_rfl) ?_
                exact W16 w38 S41
              · skip
                refine WO.set #[false, false, true, true, true, true, false, false, false, false, false, false, false, false, false] (by kernel_rfl) ?_
                refine WO.ok (OK.ldCell 33 3 (p1.add (i).toNat) (.int .i64 (l.getD (i).toNat 0)) (by kernel_rfl) (by kernel_rfl) (S41.cell hc1)) ?_
                refine WA.weaken (env' := [(1, .slice la len cap), (2, .pointer (some ⟨b1, 0, none⟩)), (6, .pointer (some ⟨b2, 0, none⟩)), (7, .slice ra ls.length rc), (8, .int .i64 i), (30, .slice la len cap), (31, .int .i64 i), (32, .pointer (some (p1.add (i).toNat))), (33, .int .i64 (l.getD (i).toNat 0))]) (by kernel_rfl) ?_
                exact W17 w38 S41
              · skip
                refine WO.set #[false, false, true, true, true, false, false, false, false, false, false, true, false, false, false] (by kernel_rfl) ?_
                refine WO.new S41 9 [.int .i64 0, .int .i64 0] 37 (by kernel_rfl) ?_
                intro bd11 w39 S42
                refine WA.weaken (env' := [(1, .slice la len cap), (2, .pointer (some ⟨b1, 0, none⟩)), (6, .pointer (some ⟨b2, 0, none⟩)), (7, .slice ra ls.length rc), (8, .int .i64 i), (9, .pointer (some ⟨bd11, 0, none⟩)), (30, .slice la len cap), (31, .int .i64 i), (32, .pointer (some (p1.add (i).toNat)))]) (by kernel_rfl) ?_
                exact W18 bd11 w39 S42
            refine J.drawAny S6 15 #[false, false, false, false, false, false, false, false, false, false, false, false, false, false, false] Try.mixed (by kernel_rfl) (by kernel_rfl) (by kernel_rfl) ?_
            intro w40 S43
            refine WA.take 2 30 (.slice la len cap) #[false, false, true, false, false, false, false, false, false, false, false, false, false, false, false] (by kernel_rfl) (by kernel_rfl) (by kernel_rfl) (fun _ => by kernel_rfl) (by kernel_rfl) ?_
            refine WA.take 3 31 (.int .i64 i) #[false, false, true, true, false, false, false, false, false, false, false, false, false, false, false] (by kernel_rfl) (by kernel_rfl) (by kernel_rfl) (fun _ => by kernel_rfl) (by kernel_rfl) ?_
            refine WA.takeOK 4 #[false, false, true, true, true, false, false, false, false, false, false, false, false, false, false] (by kernel_rfl) (by kernel_rfl) (by kernel_rfl) (by kernel_rfl) (fun _ => OK.index 32 26 1 la p1 len (i).toNat i (p1.add (i).toNat) (by kernel_rfl) (by kernel_rfl) hp1 (by omega) (by omega) (by rw [Nat.mul_one])) rfl ?_
            refine WA.weaken (env' := [(1, .slice la len cap), (2, .pointer (some ⟨b1, 0, none⟩)), (6, .pointer (some ⟨b2, 0, none⟩)), (7, .slice ra ls.length rc), (8, .int .i64 i), (30, .slice la len cap), (31, .int .i64 i), (32, .pointer (some (p1.add (i).toNat)))]) (by kernel_rfl) ?_
            exact W19 w40 S43
          · skip
            obtain ⟨p2, hp2, hc2⟩ := hI.at 0 (i).toNat (by omega)
            have W20 : ∀ (bd11 : Nat) (w41 : World), Sep w [box bd11 [.int .i64 0, .int .i64 0] 37, rowOf encI ra rc 3 1 ls, box b2 [.int .i64 s, .int .i64 a] 37, box b1 [.slice c.gStates_a c.gStates_n c.gStates_c, .slice c.gInputs_a c.gInputs_n c.gInputs_c, .int .i64 c.gStart, .slice c.gMoves_a c.gMoves_n c.gMoves_c] 25] w41 → WA Try.prog 12 48 R K12_9 0 #[true, true, true, true, true, true, true, true, true, true, true, true, true, true, true] [(1, .slice la len cap), (2, .pointer (some ⟨b1, 0, none⟩)), (6, .pointer (some ⟨b2, 0, none⟩)), (7, .slice ra ls.length rc), (8, .int .i64 i), (9, .pointer (some ⟨bd11, 0, none⟩)), (10, .int .i64 0), (11, .int .i64 2), (27, .tuple #[.agg #[.int .i64 0, .int .i64 0], .int .i64 0, .int .i64 2]), (28, .agg #[.slice c.gStates_a c.gStates_n c.gStates_c, .slice c.gInputs_a c.gInputs_n c.gInputs_c, .int .i64 c.gStart, .slice c.gMoves_a c.gMoves_n c.gMoves_c]), (29, .agg #[.int .i64 s, .int .i64 a]), (30, .slice la len cap), (31, .int .i64 i), (32, .pointer (some (p2.add (i).toNat))), (33, .int .i64 (l.getD (i).toNat 0)), (34, .tuple #[.agg #[.int .i64 0, .int .i64 0], .int .i64 0, .int .i64 2]), (35, .agg #[.int .i64 0, .int .i64 0]), (36, .int .i64 0), (37, .int .i64 2)] w41 := by
              intro bd11 w41 S44
              refine WA.done (by kernel_rfl) ?_
              refine J.run 0 (rRest K12_9) [(1, .slice la len cap), (2, .pointer (some ⟨b1, 0, none⟩)), (6, .pointer (some ⟨b2, 0, none⟩)), (7, .slice ra ls.length rc), (8, .int .i64 i), (9, .pointer (some ⟨bd11, 0, none⟩)), (11, .int .i64 2)] w41 (by kernel_rfl) ?_
              refine J.run 13 K12_13 [(5, .int .i64 2), (4, .slice none 0 0)] w41 (by kernel_rfl) ?_
              refine J.ret Try.f12 [.slice none 0 0, .int .i64 2] Try.func12 ⟨by kernel_rfl, by kernel_rfl, trivial⟩ ?_
              refine hR _ _ ?_
              have e1 := run_e2 (c := c) (l := l) fk1 (by omega) (any_out h0 (by omega) fk4)
              have e2 := run_err e1 (by omega)
              exact ⟨none, 0, by rw [tup_two, e1, e2]; rfl, by rw [e2]; exact (S44.nilRow 3 1).pick 0 rfl⟩
            have W21 : ∀ (bd11 : Nat) (w42 : World), Sep w [box bd11 [.int .i64 0, .int .i64 0] 37, rowOf encI ra rc 3 1 ls, box b2 [.int .i64 s, .int .i64 a] 37, box b1 [.slice c.gStates_a c.gStates_n c.gStates_c, .slice c.gInputs_a c.gInputs_n c.gInputs_c, .int .i64 c.gStart, .slice c.gMoves_a c.gMoves_n c.gMoves_c] 25] w42 → WA Try.prog 12 48 R K12_9 3 #[true, true, true, true, true, true, true, true, true, true, true, true, false, false, false] [(1, .slice la len cap), (2, .pointer (some ⟨b1, 0, none⟩)), (6, .pointer (some ⟨b2, 0, none⟩)), (7, .slice ra ls.length rc), (8, .int .i64 i), (9, .pointer (some ⟨bd11, 0, none⟩)), (27, .tuple #[.agg #[.int .i64 0, .int .i64 0], .int .i64 0, .int .i64 2]), (28, .agg #[.slice c.gStates_a c.gStates_n c.gStates_c, .slice c.gInputs_a c.gInputs_n c.gInputs_c, .int .i64 c.gStart, .slice c.gMoves_a c.gMoves_n c.gMoves_c]), (29, .agg #[.int .i64 s, .int .i64 a]), (30, .slice la len cap), (31, .int .i64 i), (32, .pointer (some (p2.add (i).toNat))), (33, .int .i64 (l.getD (i).toNat 0)), (34, .tuple #[.agg #[.int .i64 0, .int .i64 0], .int .i64 0, .int .i64 2]), (35, .agg #[.int .i64 0, .int .i64 0]), (36, .int .i64 0), (37, .int .i64 2)] w42 := by
              intro bd11 w42 S45
              refine WA.all [12] (by kernel_rfl) rfl ⟨?_, trivial⟩
              · skip
                refine WO.set #[true, true, true, true, true, true, true, true, true, true, true, true, true, false, false] (by kernel_rfl) ?_
                refine WO.stBox S45 0 37 0 (.agg #[.int .i64 0, .int .i64 0]) [.int .i64 0, .int .i64 0] [box bd11 [.int .i64 0, .int .i64 0] 37, rowOf encI ra rc 3 1 ls, box b2 [.int .i64 s, .int .i64 a] 37, box b1 [.slice c.gStates_a c.gStates_n c.gStates_c, .slice c.gInputs_a c.gInputs_n c.gInputs_c, .int .i64 c.gStart, .slice c.gMoves_a c.gMoves_n c.gMoves_c] 25] (by kernel_rfl) rfl (by kernel_rfl) (by kernel_rfl) rfl ?_
                intro w43 S46
                refine WA.take 13 10 (.int .i64 0) #[true, true, true, true, true, true, true, true, true, true, true, true, true, true, false] (by kernel_rfl) (by kernel_rfl) (by kernel_rfl) (fun _ => by kernel_rfl) (by kernel_rfl) ?_
                refine WA.take 14 11 (.int .i64 2) #[true, true, true, true, true, true, true, true, true, true, true, true, true, true, true] (by kernel_rfl) (by kernel_rfl) (by kernel_rfl) (fun _ => by kernel_rfl) (by kernel_rfl) ?_
                refine WA.weaken (env' := [(1, .slice la len cap), (2, .pointer (some ⟨b1, 0, none⟩)), (6, .pointer (some ⟨b2, 0, none⟩)), (7, .slice ra ls.length rc), (8, .int .i64 i), (9, .pointer (some ⟨bd11, 0, none⟩)), (10, .int .i64 0), (11, .int .i64 2), (27, .tuple #[.agg #[.int .i64 0, .int .i64 0], .int .i64 0, .int .i64 2]), (28, .agg #[.slice c.gStates_a c.gStates_n c.gStates_c, .slice c.gInputs_a c.gInputs_n c.gInputs_c, .int .i64 c.gStart, .slice c.gMoves_a c.gMoves_n c.gMoves_c]), (29, .agg #[.int .i64 s, .int .i64 a]), (30, .slice la len cap), (31, .int .i64 i), (32, .pointer (some (p2.add (i).toNat))), (33, .int .i64 (l.getD (i).toNat 0)), (34, .tuple #[.agg #[.int .i64 0, .int .i64 0], .int .i64 0, .int .i64 2]), (35, .agg #[.int .i64 0, .int .i64 0]), (36, .int .i64 0), (37, .int .i64 2)]) (by kernel_rfl) ?_
                exact W20 bd11 w43 S46
            have W22 : ∀ (w44 : World), Sep w [rowOf encI ra rc 3 1 ls, box b2 [.int .i64 s, .int .i64 a] 37, box b1 [.slice c.gStates_a c.gStates_n c.gStates_c, .slice c.gInputs_a c.gInputs_n c.gInputs_c, .int .i64 c.gStart, .slice c.gMoves_a c.gMoves_n c.gMoves_c] 25] w44 → WA Try.prog 12 48 R K12_9 4 #[true, true, true, true, true, true, true, true, true, true, true, false, false, false, false] [(1, .slice la len cap), (2, .pointer (some ⟨b1, 0, none⟩)), (6, .pointer (some ⟨b2, 0, none⟩)), (7, .slice ra ls.length rc), (8, .int .i64 i), (27, .tuple #[.agg #[.int .i64 0, .int .i64 0], .int .i64 0, .int .i64 2]), (28, .agg #[.slice c.gStates_a c.gStates_n c.gStates_c, .slice c.gInputs_a c.gInputs_n c.gInputs_c, .int .i64 c.gStart, .slice c.gMoves_a c.gMoves_n c.gMoves_c]), (29, .agg #[.int .i64 s, .int .i64 a]), (30, .slice la len cap), (31, .int .i64 i), (32, .pointer (some (p2.add (i).toNat))), (33, .int .i64 (l.getD (i).toNat 0)), (34, .tuple #[.agg #[.int .i64 0, .int .i64 0], .int .i64 0, .int .i64 2]), (35, .agg #[.int .i64 0, .int .i64 0]), (36, .int .i64 0), (37, .int .i64 2)] w44 := by
              intro w44 S47
              refine WA.all [11] (by kernel_rfl) rfl ⟨?_, trivial⟩
              · skip
                refine WO.set #[true, true, true, true, true, true, true, true, true, true, true, true, false, false, false] (by kernel_rfl) ?_
                refine WO.new S47 9 [.int .i64 0, .int .i64 0] 37 (by kernel_rfl) ?_
                intro bd11 w45 S48
                refine WA.weaken (env' := [(1, .slice la len cap), (2, .pointer (some ⟨b1, 0, none⟩)), (6, .pointer (some ⟨b2, 0, none⟩)), (7, .slice ra ls.length rc), (8, .int .i64 i), (9, .pointer (some ⟨bd11, 0, none⟩)), (27, .tuple #[.agg #[.int .i64 0, .int .i64 0], .int .i64 0, .int .i64 2]), (28, .agg #[.slice c.gStates_a c.gStates_n c.gStates_c, .slice c.gInputs_a c.gInputs_n c.gInputs_c, .int .i64 c.gStart, .slice c.gMoves_a c.gMoves_n c.gMoves_c]), (29, .agg #[.int .i64 s, .int .i64 a]), (30, .slice la len cap), (31, .int .i64 i), (32, .pointer (some (p2.add (i).toNat))), (33, .int .i64 (l.getD (i).toNat 0)), (34, .tuple #[.agg #[.int .i64 0, .int .i64 0], .int .i64 0, .int .i64 2]), (35, .agg #[.int .i64 0, .int .i64 0]), (36, .int .i64 0), (37, .int .i64 2)]) (by kernel_rfl) ?_
                exact W21 bd11 w45 S48
            have W23 : ∀ (bd11 : Nat) (w46 : World), Sep w [box bd11 [.int .i64 0, .int .i64 0] 37, rowOf encI ra rc 3 1 ls, box b2 [.int .i64 s, .int .i64 a] 37, box b1 [.slice c.gStates_a c.gStates_n c.gStates_c, .slice c.gInputs_a c.gInputs_n c.gInputs_c, .int .i64 c.gStart, .slice c.gMoves_a c.gMoves_n c.gMoves_c] 25] w46 → WA Try.prog 12 48 R K12_9 8 #[true, true, true, true, true, true, false, false, false, false, false, true, false, false, false] [(1, .slice la len cap), (2, .pointer (some ⟨b1, 0, none⟩)), (6, .pointer (some ⟨b2, 0, none⟩)), (7, .slice ra ls.length rc), (8, .int .i64 i), (9, .pointer (some ⟨bd11, 0, none⟩)), (28, .agg #[.slice c.gStates_a c.gStates_n c.gStates_c, .slice c.gInputs_a c.gInputs_n c.gInputs_c, .int .i64 c.gStart, .slice c.gMoves_a c.gMoves_n c.gMoves_c]), (29, .agg #[.int .i64 s, .int .i64 a]), (30, .slice la len cap), (31, .int .i64 i), (32, .pointer (some (p2.add (i).toNat))), (33, .int .i64 (l.getD (i).toNat 0))] w46 := by
              intro bd11 w46 S49
              refine WA.all [6] (by kernel_rfl) rfl ⟨?_, trivial⟩
              · skip
                refine WO.set #[true, true, true, true, true, true, true, false, false, false, false, true, false, false, false] (by kernel_rfl) ?_
                have fk7 : (okS c s a) = true := okS_iff.2 (by omega)
                refine WO.callF 34 18 #[.agg #[.slice c.gStates_a c.gStates_n c.gStates_c, .slice c.gInputs_a c.gInputs_n c.gInputs_c, .int .i64 c.gStart, .slice c.gMoves_a c.gMoves_n c.gMoves_c], .agg #[.int .i64 s, .int .i64 a], .int .i64 (l.getD (i).toNat 0)] hb18 (by kernel_rfl) (rstep3_any c s a (l.getD (i).toNat 0) _ (chtQ_sep hc S49)) ?_
                rintro _ w47 ⟨rfl, T4⟩
                have S50 : Sep w [box bd11 [.int .i64 0, .int .i64 0] 37, rowOf encI ra rc 3 1 ls, box b2 [.int .i64 s, .int .i64 a] 37, box b1 [.slice c.gStates_a c.gStates_n c.gStates_c, .slice c.gInputs_a c.gInputs_n c.gInputs_c, .int .i64 c.gStart, .slice c.gMoves_a c.gMoves_n c.gMoves_c] 25] w47 := S49.trans T4
                clear T4 S49
                refine WA.head (.tuple #[.agg #[.int .i64 0, .int .i64 0], .int .i64 0, .int .i64 2]) (by first | (simp only [stepV, fk1, fk7, fk4, reduceCtorEq, ↓reduceIte]; done) | simp [stepV, fk1, fk7, fk4]) ?_
                refine WA.take 7 27 (.tuple #[.agg #[.int .i64 0, .int .i64 0], .int .i64 0, .int .i64 2]) #[true, true, true, true, true, true, true, true, false, false, false, true, false, false, false] (by kernel_rfl) (by kernel_rfl) (by kernel_rfl) (fun _ => by kernel_rfl) (by kernel_rfl) ?_
                refine WA.take 8 35 (.agg #[.int .i64 0, .int .i64 0]) #[true, true, true, true, true, true, true, true, true, false, false, true, false, false, false] (by kernel_rfl) (by kernel_rfl) (by kernel_rfl) (fun _ => by kernel_rfl) (by kernel_rfl) ?_
                refine WA.take 9 36 (.int .i64 0) #[true, true, true, true, true, true, true, true, true, true, false, true, false, false, false] (by kernel_rfl) (by kernel_rfl) (by kernel_rfl) (fun _ => by kernel_rfl) (by kernel_rfl) ?_
                refine WA.take 10 37 (.int .i64 2) #[true, true, true, true, true, true, true, true, true, true, true, true, false, false, false] (by kernel_rfl) (by kernel_rfl) (by kernel_rfl) (fun _ => by kernel_rfl) (by kernel_rfl) ?_
                refine WA.weaken (env' := [(1, .slice la len cap), (2, .pointer (some ⟨b1, 0, none⟩)), (6, .pointer (some ⟨b2, 0, none⟩)), (7, .slice ra ls.length rc), (8, .int .i64 i), (9, .pointer (some ⟨bd11, 0, none⟩)), (27, .tuple #[.agg #[.int .i64 0, .int .i64 0], .int .i64 0, .int .i64 2]), (28, .agg #[.slice c.gStates_a c.gStates_n c.gStates_c, .slice c.gInputs_a c.gInputs_n c.gInputs_c, .int .i64 c.gStart, .slice c.gMoves_a c.gMoves_n c.gMoves_c]), (29, .agg #[.int .i64 s, .int .i64 a]), (30, .slice la len cap), (31, .int .i64 i), (32, .pointer (some (p2.add (i).toNat))), (33, .int .i64 (l.getD (i).toNat 0)), (34, .tuple #[.agg #[.int .i64 0, .int .i64 0], .int .i64 0, .int .i64 2]), (35, .agg #[.int .i64 0, .int .i64 0]), (36, .int .i64 0), (37, .int .i64 2)]) (by kernel_rfl) ?_
                exact W21 bd11 w47 S50
            have W24 : ∀ (bd11 : Nat) (w48 : World), Sep w [box bd11 [.int .i64 0, .int .i64 0] 37, rowOf encI ra rc 3 1 ls, box b2 [.int .i64 s, .int .i64 a] 37, box b1 [.slice c.gStates_a c.gStates_n c.gStates_c, .slice c.gInputs_a c.gInputs_n c.gInputs_c, .int .i64 c.gStart, .slice c.gMoves_a c.gMoves_n c.gMoves_c] 25] w48 → WA Try.prog 12 48 R K12_9 9 #[true, false, true, true, true, true, false, false, false, false, false, true, false, false, false] [(1, .slice la len cap), (2, .pointer (some ⟨b1, 0, none⟩)), (6, .pointer (some ⟨b2, 0, none⟩)), (7, .slice ra ls.length rc), (8, .int .i64 i), (9, .pointer (some ⟨bd11, 0, none⟩)), (28, .agg #[.slice c.gStates_a c.gStates_n c.gStates_c, .slice c.gInputs_a c.gInputs_n c.gInputs_c, .int .i64 c.gStart, .slice c.gMoves_a c.gMoves_n c.gMoves_c]), (30, .slice la len cap), (31, .int .i64 i), (32, .pointer (some (p2.add (i).toNat))), (33, .int .i64 (l.getD (i).toNat 0))] w48 := by
              intro bd11 w48 S51
              refine WA.all [1] (by kernel_rfl) rfl ⟨?_, trivial⟩
              · skip
                refine WO.set #[true, true, true, true, true, true, false, false, false, false, false, true, false, false, false] (by kernel_rfl) ?_
                refine WO.ok (OK.ldBox S51 2 29 37 0 (.agg #[.int .i64 s, .int .i64 a]) (by kernel_rfl) rfl (by kernel_rfl)) ?_
                refine WA.weaken (env' := [(1, .slice la len cap), (2, .pointer (some ⟨b1, 0, none⟩)), (6, .pointer (some ⟨b2, 0, none⟩)), (7, .slice ra ls.length rc), (8, .int .i64 i), (9, .pointer (some ⟨bd11, 0, none⟩)), (28, .agg #[.slice c.gStates_a c.gStates_n c.gStates_c, .slice c.gInputs_a c.gInputs_n c.gInputs_c, .int .i64 c.gStart, .slice c.gMoves_a c.gMoves_n c.gMoves_c]), (29, .agg #[.int .i64 s, .int .i64 a]), (30, .slice la len cap), (31, .int .i64 i), (32, .pointer (some (p2.add (i).toNat))), (33, .int .i64 (l.getD (i).toNat 0))]) (by kernel_rfl) ?_
                exact W23 bd11 w48 S51
            have W25 : ∀ (bd11 : Nat) (w49 : World), Sep w [box bd11 [.int .i64 0, .int .i64 0] 37, rowOf encI ra rc 3 1 ls, box b2 [.int .i64 s, .int .i64 a] 37, box b1 [.slice c.gStates_a c.gStates_n c.gStates_c, .slice c.gInputs_a c.gInputs_n c.gInputs_c, .int .i64 c.gStart, .slice c.gMoves_a c.gMoves_n c.gMoves_c] 25] w49 → WA Try.prog 12 48 R K12_9 9 #[false, true, true, true, true, true, false, false, false, false, false, true, false, false, false] [(1, .slice la len cap), (2, .pointer (some ⟨b1, 0, none⟩)), (6, .pointer (some ⟨b2, 0, none⟩)), (7, .slice ra ls.length rc), (8, .int .i64 i), (9, .pointer (some ⟨bd11, 0, none⟩)), (29, .agg #[.int .i64 s, .int .i64 a]), (30, .slice la len cap), (31, .int .i64 i), (32, .pointer (some (p2.add (i).toNat))), (33, .int .i64 (l.getD (i).toNat 0))] w49 := by
              intro bd11 w49 S52
              refine WA.all [0] (by kernel_rfl) rfl ⟨?_, trivial⟩
              · skip
                refine WO.set #[true, true, true, true, true, true, false, false, false, false, false, true, false, false, false] (by kernel_rfl) ?_
                refine WO.ok (OK.ldBox S52 3 28 25 0 (.agg #[.slice c.gStates_a c.gStates_n c.gStates_c, .slice c.gInputs_a c.gInputs_n c.gInputs_c, .int .i64 c.gStart, .slice c.gMoves_a c.gMoves_n c.gMoves_c]) (by kernel_rfl) rfl (by kernel_rfl)) ?_
                refine WA.weaken (env' := [(1, .slice la len cap), (2, .pointer (some ⟨b1, 0, none⟩)), (6, .pointer (some ⟨b2, 0, none⟩)), (7, .slice ra ls.length rc), (8, .int .i64 i), (9, .pointer (some ⟨bd11, 0, none⟩)), (28, .agg #[.slice c.gStates_a c.gStates_n c.gStates_c, .slice c.gInputs_a c.gInputs_n c.gInputs_c, .int .i64 c.gStart, .slice c.gMoves_a c.gMoves_n c.gMoves_c]), (29, .agg #[.int .i64 s, .int .i64 a]), (30, .slice la len cap), (31, .int .i64 i), (32, .pointer (some (p2.add (i).toNat))), (33, .int .i64 (l.getD (i).toNat 0))]) (by kernel_rfl) ?_
                exact W23 bd11 w49 S52
            have W26 : ∀ (bd11 : Nat) (w50 : World), Sep w [box bd11 [.int .i64 0, .int .i64 0] 37, rowOf encI ra rc 3 1 ls, box b2 [.int .i64 s, .int .i64 a] 37, box b1 [.slice c.gStates_a c.gStates_n c.gStates_c, .slice c.gInputs_a c.gInputs_n c.gInputs_c, .int .i64 c.gStart, .slice c.gMoves_a c.gMoves_n c.gMoves_c] 25] w50 → WA Try.prog 12 48 R K12_9 9 #[true, true, true, true, true, false, false, false, false, false, false, true, false, false, false] [(1, .slice la len cap), (2, .pointer (some ⟨b1, 0, none⟩)), (6, .pointer (some ⟨b2, 0, none⟩)), (7, .slice ra ls.length rc), (8, .int .i64 i), (9, .pointer (some ⟨bd11, 0, none⟩)), (28, .agg #[.slice c.gStates_a c.gStates_n c.gStates_c, .slice c.gInputs_a c.gInputs_n c.gInputs_c, .int .i64 c.gStart, .slice c.gMoves_a c.gMoves_n c.gMoves_c]), (29, .agg #[.int .i64 s, .int .i64 a]), (30, .slice la len cap), (31, .int .i64 i), (32, .pointer (some (p2.add (i).toNat)))] w50 := by
              intro bd11 w50 S53
              refine WA.all [5] (by kernel_rfl) rfl ⟨?_, trivial⟩
              · skip
                refine WO.set #[true, true, true, true, true, true, false, false, false, false, false, true, false, false, false] (by kernel_rfl) ?_
                refine WO.ok (OK.ldCell 33 3 (p2.add (i).toNat) (.int .i64 (l.getD (i).toNat 0)) (by kernel_rfl) (by kernel_rfl) (S53.cell hc2)) ?_
                refine WA.weaken (env' := [(1, .slice la len cap), (2, .pointer (some ⟨b1, 0, none⟩)), (6, .pointer (some ⟨b2, 0, none⟩)), (7, .slice ra ls.length rc), (8, .int .i64 i), (9, .pointer (some ⟨bd11, 0, none⟩)), (28, .agg #[.slice c.gStates_a c.gStates_n c.gStates_c, .slice c.gInputs_a c.gInputs_n c.gInputs_c, .int .i64 c.gStart, .slice c.gMoves_a c.gMoves_n c.gMoves_c]), (29, .agg #[.int .i64 s, .int .i64 a]), (30, .slice la len cap), (31, .int .i64 i), (32, .pointer (some (p2.add (i).toNat))), (33, .int .i64 (l.getD (i).toNat 0))]) (by kernel_rfl) ?_
                exact W23 bd11 w50 S53
            have W27 : ∀ (w51 : World), Sep w [rowOf encI ra rc 3 1 ls, box b2 [.int .i64 s, .int .i64 a] 37, box b1 [.slice c.gStates_a c.gStates_n c.gStates_c, .slice c.gInputs_a c.gInputs_n c.gInputs_c, .int .i64 c.gStart, .slice c.gMoves_a c.gMoves_n c.gMoves_c] 25] w51 → WA Try.prog 12 48 R K12_9 9 #[true, true, true, true, true, true, false, false, false, false, false, false, false, false, false] [(1, .slice la len cap), (2, .pointer (some ⟨b1, 0, none⟩)), (6, .pointer (some ⟨b2, 0, none⟩)), (7, .slice ra ls.length rc), (8, .int .i64 i), (28, .agg #[.slice c.gStates_a c.gStates_n c.gStates_c, .slice c.gInputs_a c.gInputs_n c.gInputs_c, .int .i64 c.gStart, .slice c.gMoves_a c.gMoves_n c.gMoves_c]), (29, .agg #[.int .i64 s, .int .i64 a]), (30, .slice la len cap), (31, .int .i64 i), (32, .pointer (some (p2.add (i).toNat))), (33, .int .i64 (l.getD (i).toNat 0))] w51 := by
              intro w51 S54
              refine WA.all [6, 11] (by kernel_rfl) rfl ⟨?_, ?_, trivial⟩
              · skip
                refine WO.set #[true, true, true, true, true, true, true, false, false, false, false, false, false, false, false] (by kernel_rfl) ?_
                have fk8 : (okS c s a) = true := okS_iff.2 (by omega)
                refine WO.callF 34 18 #[.agg #[.slice c.gStates_a c.gStates_n c.gStates_c, .slice c.gInputs_a c.gInputs_n c.gInputs_c, .int .i64 c.gStart, .slice c.gMoves_a c.gMoves_n c.gMoves_c], .agg #[.int .i64 s, .int .i64 a], .int .i64 (l.getD (i).toNat 0)] hb18 (by kernel_rfl) (rstep3_any c s a (l.getD (i).toNat 0) _ (chtQ_sep hc S54)) ?_
                rintro _ w52 ⟨rfl, T5⟩
                have S55 : Sep w [rowOf encI ra rc 3 1 ls, box b2 [.int .i64 s, .int .i64 a] 37, box b1 [.slice c.gStates_a c.gStates_n c.gStates_c, .slice c.gInputs_a c.gInputs_n c.gInputs_c, .int .i64 c.gStart, .slice c.gMoves_a c.gMoves_n c.gMoves_c] 25] w52 := S54.trans T5
                clear T5 S54
                refine WA.head (.tuple #[.agg #[.int .i64 0, .int .i64 0], .int .i64 0, .int .i64 2]) (by first | (simp only [stepV, fk1, fk8, fk4, reduceCtorEq, ↓reduceIte]; done) | simp [stepV, fk1, fk8, fk4]) ?_
                refine WA.take 7 27 (.tuple #[.agg #[.int .i64 0, .int .i64 0], .int .i64 0, .int .i64 2]) #[true, true, true, true, true, true, true, true, false, false, false, false, false, false, false] (by kernel_rfl) (by kernel_rfl) (by kernel_rfl) (fun _ => by kernel_rfl) (by kernel_rfl) ?_
                refine WA.take 8 35 (.agg #[.int .i64 0, .int .i64 0]) #[true, true, true, true, true, true, true, true, true, false, false, false, false, false, false] (by kernel_rfl) (by kernel_rfl) (by kernel_rfl) (fun _ => by kernel_rfl) (by kernel_rfl) ?_
                refine WA.take 9 36 (.int .i64 0) #[true, true, true, true, true, true, true, true, true, true, false, false, false, false, false] (by kernel_rfl) (by kernel_rfl) (by kernel_rfl) (fun _ => by kernel_rfl) (by kernel_rfl) ?_
                refine WA.take 10 37 (.int .i64 2) #[true, true, true, true, true, true, true, true, true, true, true, false, false, false, false] (by kernel_rfl) (by kernel_rfl) (by kernel_rfl) (fun _ => by kernel_rfl) (by kernel_rfl) ?_
                refine WA.weaken (env' := [(1, .slice la len cap), (2, .pointer (some ⟨b1, 0, none⟩)), (6, .pointer (some ⟨b2, 0, none⟩)), (7, .slice ra ls.length rc), (8, .int .i64 i), (27, .tuple #[.agg #[.int .i64 0, .int .i64 0], .int .i64 0, .int .i64 2]), (28, .agg #[.slice c.gStates_a c.gStates_n c.gStates_c, .slice c.gInputs_a c.gInputs_n c.gInputs_c, .int .i64 c.gStart, .slice c.gMoves_a c.gMoves_n c.gMoves_c]), (29, .agg #[.int .i64 s, .int .i64 a]), (30, .slice la len cap), (31, .int .i64 i), (32, .pointer (some (p2.add (i).toNat))), (33, .int .i64 (l.getD (i).toNat 0)), (34, .tuple #[.agg #[.int .i64 0, .int .i64 0], .int .i64 0, .int .i64 2]), (35, .agg #[.int .i64 0, .int .i64 0]), (36, .int .i64 0), (37, .int .i64 2)]) (by kernel_rfl) ?_
                exact W22 w52 S55
              · skip
                refine WO.set #[true, true, true, true, true, true, false, false, false, false, false, true, false, false, false] (by kernel_rfl) ?_
                refine WO.new S54 9 [.int .i64 0, .int .i64 0] 37 (by kernel_rfl) ?_
                intro bd11 w53 S56
                refine WA.weaken (env' := [(1, .slice la len cap), (2, .pointer (some ⟨b1, 0, none⟩)), (6, .pointer (some ⟨b2, 0, none⟩)), (7, .slice ra ls.length rc), (8, .int .i64 i), (9, .pointer (some ⟨bd11, 0, none⟩)), (28, .agg #[.slice c.gStates_a c.gStates_n c.gStates_c, .slice c.gInputs_a c.gInputs_n c.gInputs_c, .int .i64 c.gStart, .slice c.gMoves_a c.gMoves_n c.gMoves_c]), (29, .agg #[.int .i64 s, .int .i64 a]), (30, .slice la len cap), (31, .int .i64 i), (32, .pointer (some (p2.add (i).toNat))), (33, .int .i64 (l.getD (i).toNat 0))]) (by kernel_rfl) ?_
                exact W23 bd11 w53 S56
            have W28 : ∀ (bd11 : Nat) (w54 : World), Sep w [box bd11 [.int .i64 0, .int .i64 0] 37, rowOf encI ra rc 3 1 ls, box b2 [.int .i64 s, .int .i64 a] 37, box b1 [.slice c.gStates_a c.gStates_n c.gStates_c, .slice c.gInputs_a c.gInputs_n c.gInputs_c, .int .i64 c.gStart, .slice c.gMoves_a c.gMoves_n c.gMoves_c] 25] w54 → WA Try.prog 12 48 R K12_9 10 #[true, false, true, true, true, false, false, false, false, false, false, true, false, false, false] [(1, .slice la len cap), (2, .pointer (some ⟨b1, 0, none⟩)), (6, .pointer (some ⟨b2, 0, none⟩)), (7, .slice ra ls.length rc), (8, .int .i64 i), (9, .pointer (some ⟨bd11, 0, none⟩)), (28, .agg #[.slice c.gStates_a c.gStates_n c.gStates_c, .slice c.gInputs_a c.gInputs_n c.gInputs_c, .int .i64 c.gStart, .slice c.gMoves_a c.gMoves_n c.gMoves_c]), (30, .slice la len cap), (31, .int .i64 i), (32, .pointer (some (p2.add (i).toNat)))] w54 := by
              intro bd11 w54 S57
              refine WA.all [1, 5] (by kernel_rfl) rfl ⟨?_, ?_, trivial⟩
              · skip
                refine WO.set #[true, true, true, true, true, false, false, false, false, false, false, true, false, false, false] (by kernel_rfl) ?_
                refine WO.ok (OK.ldBox S57 2 29 37 0 (.agg #[.int .i64 s, .int .i64 a]) (by kernel_rfl) rfl (by kernel_rfl)) ?_
                refine WA.weaken (env' := [(1, .slice la len cap), (2, .pointer (some ⟨b1, 0, none⟩)), (6, .pointer (some ⟨b2, 0, none⟩)), (7, .slice ra ls.length rc), (8, .int .i64 i), (9, .pointer (some ⟨bd11, 0, none⟩)), (28, .agg #[.slice c.gStates_a c.gStates_n c.gStates_c, .slice c.gInputs_a c.gInputs_n c.gInputs_c, .int .i64 c.gStart, .slice c.gMoves_a c.gMoves_n c.gMoves_c]), (29, .agg #[.int .i64 s, .int .i64 a]), (30, .slice la len cap), (31, .int .i64 i), (32, .pointer (some (p2.add (i).toNat)))]) (by kernel_rfl) ?_
                exact W26 bd11 w54 S57
              · skip
                refine WO.set #[true, false, true, true, true, true, false, false, false, false, false, true, false, false, false] (by kernel_rfl) ?_
                refine WO.ok (OK.ldCell 33 3 (p2.add (i).toNat) (.int .i64 (l.getD (i).toNat 0)) (by kernel_rfl) (by kernel_rfl) (S57.cell hc2)) ?_
                refine WA.weaken (env' := [(1, .slice la len cap), (2, .pointer (some ⟨b1, 0, none⟩)), (6, .pointer (some ⟨b2, 0, none⟩)), (7, .slice ra ls.length rc), (8, .int .i64 i), (9, .pointer (some ⟨bd11, 0, none⟩)), (28, .agg #[.slice c.gStates_a c.gStates_n c.gStates_c, .slice c.gInputs_a c.gInputs_n c.gInputs_c, .int .i64 c.gStart, .slice c.gMoves_a c.gMoves_n c.gMoves_c]), (30, .slice la len cap), (31, .int .i64 i), (32, .pointer (some (p2.add (i).toNat))), (33, .int .i64 (l.getD (i).toNat 0))]) (by kernel_rfl) ?_
                exact W24 bd11 w54 S57
            have W29 : ∀ (bd11 : Nat) (w55 : World), Sep w [box bd11 [.int .i64 0, .int .i64 0] 37, rowOf encI ra rc 3 1 ls, box b2 [.int .i64 s, .int .i64 a] 37, box b1 [.slice c.gStates_a c.gStates_n c.gStates_c, .slice c.gInputs_a c.gInputs_n c.gInputs_c, .int .i64 c.gStart, .slice c.gMoves_a c.gMoves_n c.gMoves_c] 25] w55 → WA Try.prog 12 48 R K12_9 10 #[false, true, true, true, true, false, false, false, false, false, false, true, false, false, false] [(1, .slice la len cap), (2, .pointer (some ⟨b1, 0, none⟩)), (6, .pointer (some ⟨b2, 0, none⟩)), (7, .slice ra ls.length rc), (8, .int .i64 i), (9, .pointer (some ⟨bd11, 0, none⟩)), (29, .agg #[.int .i64 s, .int .i64 a]), (30, .slice la len cap), (31, .int .i64 i), (32, .pointer (some (p2.add (i).toNat)))] w55 := by
              intro bd11 w55 S58
              refine WA.all [0, 5] (by kernel_rfl) rfl ⟨?_, ?_, trivial⟩
              · skip
                refine WO.set #[true, true, true, true, true, false, false, false, false, false, false, true, false, false, false] (by kernel_rfl) ?_
                refine WO.ok (OK.ldBox S58 3 28 25 0 (.agg #[.slice c.gStates_a c.gStates_n c.gStates_c, .slice c.gInputs_a c.gInputs_n c.gInputs_c, .int .i64 c.gStart, .slice c.gMoves_a c.gMoves_n c.gMoves_c]) (by kernel_rfl) rfl (by kernel_rfl)) ?_
                refine WA.weaken (env' := [(1, .slice la len cap), (2, .pointer (some ⟨b1, 0, none⟩)), (6, .pointer (some ⟨b2, 0, none⟩)), (7, .slice ra ls.length rc), (8, .int .i64 i), (9, .pointer (some ⟨bd11, 0, none⟩)), (28, .agg #[.slice c.gStates_a c.gStates_n c.gStates_c, .slice c.gInputs_a c.gInputs_n c.gInputs_c, .int .i64 c.gStart, .slice c.gMoves_a c.gMoves_n c.gMoves_c]), (29, .agg #[.int .i64 s, .int .i64 a]), (30, .slice la len cap), (31, .int .i64 i), (32, .pointer (some (p2.add (i).toNat)))]) (by kernel_rfl) ?_
                exact W26 bd11 w55 S58
              · skip
                refine WO.set #[false, true, true, true, true, true, false, false, false, false, false, true, false, false, false] (by kernel_rfl) ?_
                refine WO.ok (OK.ldCell 33 3 (p2.add (i).toNat) (.int .i64 (l.getD (i).toNat 0)) (by kernel_rfl) (by kernel_rfl) (S58.cell hc2)) ?_
                refine WA.weaken (env' := [(1, .slice la len cap), (2, .pointer (some ⟨b1, 0, none⟩)), (6, .pointer (some ⟨b2, 0, none⟩)), (7, .slice ra ls.length rc), (8, .int .i64 i), (9, .pointer (some ⟨bd11, 0, none⟩)), (29, .agg #[.int .i64 s, .int .i64 a]), (30, .slice la len cap), (31, .int .i64 i), (32, .pointer (some (p2.add (i).toNat))), (33, .int .i64 (l.getD (i).toNat 0))]) (by kernel_rfl) ?_
                exact W25 bd11 w55 S58
            have W30 : ∀ (bd11 : Nat) (w56 : World), Sep w [box bd11 [.int .i64 0, .int .i64 0] 37, rowOf encI ra rc 3 1 ls, box b2 [.int .i64 s, .int .i64 a] 37, box b1 [.slice c.gStates_a c.gStates_n c.gStates_c, .slice c.gInputs_a c.gInputs_n c.gInputs_c, .int .i64 c.gStart, .slice c.gMoves_a c.gMoves_n c.gMoves_c] 25] w56 → WA Try.prog 12 48 R K12_9 10 #[false, false, true, true, true, true, false, false, false, false, false, true, false, false, false] [(1, .slice la len cap), (2, .pointer (some ⟨b1, 0, none⟩)), (6, .pointer (some ⟨b2, 0, none⟩)), (7, .slice ra ls.length rc), (8, .int .i64 i), (9, .pointer (some ⟨bd11, 0, none⟩)), (30, .slice la len cap), (31, .int .i64 i), (32, .pointer (some (p2.add (i).toNat))), (33, .int .i64 (l.getD (i).toNat 0))] w56 := by
              intro bd11 w56 S59
              refine WA.all [0, 1] (by kernel_rfl) rfl ⟨?_, ?_, trivial⟩
              · skip
                refine WO.set #[true, false, true, true, true, true, false, false, false, false, false, true, false, false, false] (by kernel_rfl) ?_
                refine WO.ok (OK.ldBox S59 3 28 25 0 (.agg #[.slice c.gStates_a c.gStates_n c.gStates_c, .slice c.gInputs_a c.gInputs_n c.gInputs_c, .int .i64 c.gStart, .slice c.gMoves_a c.gMoves_n c.gMoves_c]) (by kernel_rfl) rfl (by kernel_rfl)) ?_
                refine WA.weaken (env' := [(1, .slice la len cap), (2, .pointer (some ⟨b1, 0, none⟩)), (6, .pointer (some ⟨b2, 0, none⟩)), (7, .slice ra ls.length rc), (8, .int .i64 i), (9, .pointer (some ⟨bd11, 0, none⟩)), (28, .agg #[.slice c.gStates_a c.gStates_n c.gStates_c, .slice c.gInputs_a c.gInputs_n c.gInputs_c, .int .i64 c.gStart, .slice c.gMoves_a c.gMoves_n c.gMoves_c]), (30, .slice la len cap), (31, .int .i64 i), (32, .pointer (some (p2.add (i).toNat))), (33, .int .i64 (l.getD (i).toNat 0))]) (by kernel_rfl) ?_
                exact W24 bd11 w56 S59
              · skip
                refine WO.set #[false, true, true, true, true, true, false, false, false, false, false, true, false, false, false] (by kernel_rfl) ?_
                refine WO.ok (OK.ldBox S59 2 29 37 0 (.agg #[.int .i64 s, .int .i64 a]) (by kernel_rfl) rfl (by kernel_rfl)) ?_
                refine WA.weaken (env' := [(1, .slice la len cap), (2, .pointer (some ⟨b1, 0, none⟩)), (6, .pointer (some ⟨b2, 0, none⟩)), (7, .slice ra ls.length rc), (8, .int .i64 i), (9, .pointer (some ⟨bd11, 0, none⟩)), (29, .agg #[.int .i64 s, .int .i64 a]), (30, .slice la len cap), (31, .int .i64 i), (32, .pointer (some (p2.add (i).toNat))), (33, .int .i64 (l.getD (i).toNat 0))]) (by kernel_rfl) ?_
                exact W25 bd11 w56 S59
            have W31 : ∀ (w57 : World), Sep w [rowOf encI ra rc 3 1 ls, box b2 [.int .i64 s, .int .i64 a] 37, box b1 [.slice c.gStates_a c.gStates_n c.gStates_c, .slice c.gInputs_a c.gInputs_n c.gInputs_c, .int .i64 c.gStart, .slice c.gMoves_a c.gMoves_n c.gMoves_c] 25] w57 → WA Try.prog 12 48 R K12_9 10 #[true, false, true, true, true, true, false, false, false, false, false, false, false, false, false] [(1, .slice la len cap), (2, .pointer (some ⟨b1, 0, none⟩)), (6, .pointer (some ⟨b2, 0, none⟩)), (7, .slice ra ls.length rc), (8, .int .i64 i), (28, .agg #[.slice c.gStates_a c.gStates_n c.gStates_c, .slice c.gInputs_a c.gInputs_n c.gInputs_c, .int .i64 c.gStart, .slice c.gMoves_a c.gMoves_n c.gMoves_c]), (30, .slice la len cap), (31, .int .i64 i), (32, .pointer (some (p2.add (i).toNat))), (33, .int .i64 (l.getD (i).toNat 0))] w57 := by
              intro w57 S60
              refine WA.all [1, 11] (by kernel_rfl) rfl ⟨?_, ?_, trivial⟩
              · skip
                refine WO.set #[true, true, true, true, true, true, false, false, false, false, false, false, false, false, false] (by kernel_rfl) ?_
                refine WO.ok (OK.ldBox S60 1 29 37 0 (.agg #[.int .i64 s, .int .i64 a]) (by kernel_rfl) rfl (by kernel_rfl)) ?_
                refine WA.weaken (env' := [(1, .slice la len cap), (2, .pointer (some ⟨b1, 0, none⟩)), (6, .pointer (some ⟨b2, 0, none⟩)), (7, .slice ra ls.length rc), (8, .int .i64 i), (28, .agg #[.slice c.gStates_a c.gStates_n c.gStates_c, .slice c.gInputs_a c.gInputs_n c.gInputs_c, .int .i64 c.gStart, .slice c.gMoves_a c.gMoves_n c.gMoves_c]), (29, .agg #[.int .i64 s, .int .i64 a]), (30, .slice la len cap), (31, .int .i64 i), (32, .pointer (some (p2.add (i).toNat))), (33, .int .i64 (l.getD (i).toNat 0))]) (by kernel_rfl) ?_
                exact W27 w57 S60
              · skip
                refine WO.set #[true, false, true, true, true, true, false, false, false, false, false, true, false, false, false] (by kernel_rfl) ?_
                refine WO.new S60 9 [.int .i64 0, .int .i64 0] 37 (by kernel_rfl) ?_
                intro bd11 w58 S61
                refine WA.weaken (env' := [(1, .slice la len cap), (2, .pointer (some ⟨b1, 0, none⟩)), (6, .pointer (some ⟨b2, 0, none⟩)), (7, .slice ra ls.length rc), (8, .int .i64 i), (9, .pointer (some ⟨bd11, 0, none⟩)), (28, .agg #[.slice c.gStates_a c.gStates_n c.gStates_c, .slice c.gInputs_a c.gInputs_n c.gInputs_c, .int .i64 c.gStart, .slice c.gMoves_a c.gMoves_n c.gMoves_c]), (30, .slice la len cap), (31, .int .i64 i), (32, .pointer (some (p2.add (i).toNat))), (33, .int .i64 (l.getD (i).toNat 0))]) (by kernel_rfl) ?_
                exact W24 bd11 w58 S61
            have W32 : ∀ (w59 : World), Sep w [rowOf encI ra rc 3 1 ls, box b2 [.int .i64 s, .int .i64 a] 37, box b1 [.slice c.gStates_a c.gStates_n c.gStates_c, .slice c.gInputs_a c.gInputs_n c.gInputs_c, .int .i64 c.gStart, .slice c.gMoves_a c.gMoves_n c.gMoves_c] 25] w59 → WA Try.prog 12 48 R K12_9 10 #[false, true, true, true, true, true, false, false, false, false, false, false, false, false, false] [(1, .slice la len cap), (2, .pointer (some ⟨b1, 0, none⟩)), (6, .pointer (some ⟨b2, 0, none⟩)), (7, .slice ra ls.length rc), (8, .int .i64 i), (29, .agg #[.int .i64 s, .int .i64 a]), (30, .slice la len cap), (31, .int .i64 i), (32, .pointer (some (p2.add (i).toNat))), (33, .int .i64 (l.getD (i).toNat 0))] w59 := by
              intro w59 S62
              refine WA.all [0, 11] (by kernel_rfl) rfl ⟨?_, ?_, trivial⟩
              · skip
                refine WO.set #[true, true, true, true, true, true, false, false, false, false, false, false, false, false, false] (by kernel_rfl) ?_
                refine WO.ok (OK.ldBox S62 2 28 25 0 (.agg #[.slice c.gStates_a c.gStates_n c.gStates_c, .slice c.gInputs_a c.gInputs_n c.gInputs_c, .int .i64 c.gStart, .slice c.gMoves_a c.gMoves_n c.gMoves_c]) (by kernel_rfl) rfl (by kernel_rfl)) ?_
                refine WA.weaken (env' := [(1, .slice la len cap), (2, .pointer (some ⟨b1, 0, none⟩)), (6, .pointer (some ⟨b2, 0, none⟩)), (7, .slice ra ls.length rc), (8, .int .i64 i), (28, .agg #[.slice c.gStates_a c.gStates_n c.gStates_c, .slice c.gInputs_a c.gInputs_n c.gInputs_c, .int .i64 c.gStart, .slice c.gMoves_a c.gMoves_n c.gMoves_c]), (29, .agg #[.int .i64 s, .int .i64 a]), (30, .slice la len cap), (31, .int .i64 i), (32, .pointer (some (p2.add (i).toNat))), (33, .int .i64 (l.getD (i).toNat 0))]) (by kernel_rfl) ?_
                exact W27 w59 S62
              · skip
                refine WO.set #[false, true, true, true, true, true, false, false, false, false, false, true, false, false, false] (by kernel_rfl) ?_
                refine WO.new S62 9 [.int .i64 0, .int .i64 0] 37 (by kernel_rfl) ?_
                intro bd11 w60 S63
                refine WA.weaken (env' := [(1, .slice la len cap), (2, .pointer (some ⟨b1, 0, none⟩)), (6, .pointer (some ⟨b2, 0, none⟩)), (7, .slice ra ls.length rc), (8, .int .i64 i), (9, .pointer (some ⟨bd11, 0, none⟩)), (29, .agg #[.int .i64 s, .int .i64 a]), (30, .slice la len cap), (31, .int .i64 i), (32, .pointer (some (p2.add (i).toNat))), (33, .int .i64 (l.getD (i).toNat 0))]) (by kernel_rfl) ?_
                exact W25 bd11 w60 S63
            have W33 : ∀ (w61 : World), Sep w [rowOf encI ra rc 3 1 ls, box b2 [.int .i64 s, .int .i64 a] 37, box b1 [.slice c.gStates_a c.gStates_n c.gStates_c, .slice c.gInputs_a c.gInputs_n c.gInputs_c, .int .i64 c.gStart, .slice c.gMoves_a c.gMoves_n c.gMoves_c] 25] w61 → WA Try.prog 12 48 R K12_9 10 #[true, true, true, true, true, false, false, false, false, false, false, false, false, false, false] [(1, .slice la len cap), (2, .pointer (some ⟨b1, 0, none⟩)), (6, .pointer (some ⟨b2, 0, none⟩)), (7, .slice ra ls.length rc), (8, .int .i64 i), (28, .agg #[.slice c.gStates_a c.gStates_n c.gStates_c, .slice c.gInputs_a c.gInputs_n c.gInputs_c, .int .i64 c.gStart, .slice c.gMoves_a c.gMoves_n c.gMoves_c]), (29, .agg #[.int .i64 s, .int .i64 a]), (30, .slice la len cap), (31, .int .i64 i), (32, .pointer (some (p2.add (i).toNat)))] w61 := by
              intro w61 S64
              refine WA.all [5, 11] (by kernel_rfl) rfl ⟨?_, ?_, trivial⟩
              · skip
                refine WO.set #[true, true, true, true, true, true, false, false, false, false, false, false, false, false, false] (by kernel_rfl) ?_
                refine WO.ok (OK.ldCell 33 3 (p2.add (i).toNat) (.int .i64 (l.getD (i).toNat 0)) (by kernel_rfl) (by kernel_rfl) (S64.cell hc2)) ?_
                refine WA.weaken (env' := [(1, .slice la len cap), (2, .pointer (some ⟨b1, 0, none⟩)), (6, .pointer (some ⟨b2, 0, none⟩)), (7, .slice ra ls.length rc), (8, .int .i64 i), (28, .agg #[.slice c.gStates_a c.gStates_n c.gStates_c, .slice c.gInputs_a c.gInputs_n c.gInputs_c, .int .i64 c.gStart, .slice c.gMoves_a c.gMoves_n c.gMoves_c]), (29, .agg #[.int .i64 s, .int .i64 a]), (30, .slice la len cap), (31, .int .i64 i), (32, .pointer (some (p2.add (i).toNat))), (33, .int .i64 (l.getD (i).toNat 0))]) (by kernel_rfl) ?_
                exact W27 w61 S64
              · skip
                refine WO.set #[true, true, true, true, true, false, false, false, false, false, false, true, false, false, false] (by kernel_rfl) ?_
                refine WO.new S64 9 [.int .i64 0, .int .i64 0] 37 (by kernel_rfl) ?_
                intro bd11 w62 S65
                refine WA.weaken (env' := [(1, .slice la len cap), (2, .pointer (some ⟨b1, 0, none⟩)), (6, .pointer (some ⟨b2, 0, none⟩)), (7, .slice ra ls.length rc), (8, .int .i64 i), (9, .pointer (some ⟨bd11, 0, none⟩)), (28, .agg #[.slice c.gStates_a c.gStates_n c.gStates_c, .slice c.gInputs_a c.gInputs_n c.gInputs_c, .int .i64 c.gStart, .slice c.gMoves_a c.gMoves_n c.gMoves_c]), (29, .agg #[.int .i64 s, .int .i64 a]), (30, .slice la len cap), (31, .int .i64 i), (32, .pointer (some (p2.add (i).toNat)))]) (by kernel_rfl) ?_
                exact W26 bd11 w62 S65
            have W34 : ∀ (w63 : World), Sep w [rowOf encI ra rc 3 1 ls, box b2 [.int .i64 s, .int .i64 a] 37, box b1 [.slice c.gStates_a c.gStates_n c.gStates_c, .slice c.gInputs_a c.gInputs_n c.gInputs_c, .int .i64 c.gStart, .slice c.gMoves_a c.gMoves_n c.gMoves_c] 25] w63 → WA Try.prog 12 48 R K12_9 11 #[true, false, true, true, true, false, false, false, false, false, false, false, false, false, false] [(1, .slice la len cap), (2, .pointer (some ⟨b1, 0, none⟩)), (6, .pointer (some ⟨b2, 0, none⟩)), (7, .slice ra ls.length rc), (8, .int .i64 i), (28, .agg #[.slice c.gStates_a c.gStates_n c.gStates_c, .slice c.gInputs_a c.gInputs_n c.gInputs_c, .int .i64 c.gStart, .slice c.gMoves_a c.gMoves_n c.gMoves_c]), (30, .slice la len cap), (31, .int .i64 i), (32, .pointer (some (p2.add (i).toNat)))] w63 := by
              intro w63 S66
              refine WA.all [1, 5, 11] (by kernel_rfl) rfl ⟨?_, ?_, ?_, trivial⟩
              · skip
                refine WO.set #[true, true, true, true, true, false, false, false, false, false, false, false, false, false, false] (by kernel_rfl) ?_
                refine WO.ok (OK.ldBox S66 1 29 37 0 (.agg #[.int .i64 s, .int .i64 a]) (by kernel_rfl) rfl (by kernel_rfl)) ?_
                refine WA.weaken (env' := [(1, .slice la len cap), (2, .pointer (some ⟨b1, 0, none⟩)), (6, .pointer (some ⟨b2, 0, none⟩)), (7, .slice ra ls.length rc), (8, .int .i64 i), (28, .agg #[.slice c.gStates_a c.gStates_n c.gStates_c, .slice c.gInputs_a c.gInputs_n c.gInputs_c, .int .i64 c.gStart, .slice c.gMoves_a c.gMoves_n c.gMoves_c]), (29, .agg #[.int .i64 s, .int .i64 a]), (30, .slice la len cap), (31, .int .i64 i), (32, .pointer (some (p2.add (i).toNat)))]) (by kernel_rfl) ?_
                exact W33 w63 S66
              · skip
                refine WO.set #[true, false, true, true, true, true, false, false, false, false, false, false, false, false, false] (by kernel_rfl) ?_
                refine WO.ok (OK.ldCell 33 3 (p2.add (i).toNat) (.int .i64 (l.getD (i).toNat 0)) (by kernel_rfl) (by kernel_rfl) (S66.cell hc2)) ?_
                refine WA.weaken (env' := [(1, .slice la len cap), (2, .pointer (some ⟨b1, 0, none⟩)), (6, .pointer (some ⟨b2, 0, none⟩)), (7, .slice ra ls.length rc), (8, .int .i64 i), (28, .agg #[.slice c.gStates_a c.gStates_n c.gStates_c, .slice c.gInputs_a c.gInputs_n c.gInputs_c, .int .i64 c.gStart, .slice c.gMoves_a c.gMoves_n c.gMoves_c]), (30, .slice la len cap), (31, .int .i64 i), (32, .pointer (some (p2.add (i).toNat))), (33, .int .i64 (l.getD (i).toNat 0))]) (by kernel_rfl) ?_
                exact W31 w63 S66
              · skip
                refine WO.set #[true, false, true, true, true, false, false, false, false, false, false, true, false, false, false] (by kernel_rfl) ?_
                refine WO.new S66 9 [.int .i64 0, .int .i64 0] 37 (by kernel_rfl) ?_
                intro bd11 w64 S67
                refine WA.weaken (env' := [(1, .slice la len cap), (2, .pointer (some ⟨b1, 0, none⟩)), (6, .pointer (some ⟨b2, 0, none⟩)), (7, .slice ra ls.length rc), (8, .int .i64 i), (9, .pointer (some ⟨bd11, 0, none⟩)), (28, .agg #[.slice c.gStates_a c.gStates_n c.gStates_c, .slice c.gInputs_a c.gInputs_n c.gInputs_c, .int .i64 c.gStart, .slice c.gMoves_a c.gMoves_n c.gMoves_c]), (30, .slice la len cap), (31, .int .i64 i), (32, .pointer (some (p2.add (i).toNat)))]) (by kernel_rfl) ?_
                exact W28 bd11 w64 S67
            have W35 : ∀ (w65 : World), Sep w [rowOf encI ra rc 3 1 ls, box b2 [.int .i64 s, .int .i64 a] 37, box b1 [.slice c.gStates_a c.gStates_n c.gStates_c, .slice c.gInputs_a c.gInputs_n c.gInputs_c, .int .i64 c.gStart, .slice c.gMoves_a c.gMoves_n c.gMoves_c] 25] w65 → WA Try.prog 12 48 R K12_9 11 #[false, true, true, true, true, false, false, false, false, false, false, false, false, false, false] [(1, .slice la len cap), (2, .pointer (some ⟨b1, 0, none⟩)), (6, .pointer (some ⟨b2, 0, none⟩)), (7, .slice ra ls.length rc), (8, .int .i64 i), (29, .agg #[.int .i64 s, .int .i64 a]), (30, .slice la len cap), (31, .int .i64 i), (32, .pointer (some (p2.add (i).toNat)))] w65 := by
              intro w65 S68
              refine WA.all [0, 5, 11] (by kernel_rfl) rfl ⟨?_, ?_, ?_, trivial⟩
              · skip
                refine WO.set #[true, true, true, true, true, false, false, false, false, false, false, false, false, false, false] (by kernel_rfl) ?_
                refine WO.ok (OK.ldBox S68 2 28 25 0 (.agg #[.slice c.gStates_a c.gStates_n c.gStates_c, .slice c.gInputs_a c.gInputs_n c.gInputs_c, .int .i64 c.gStart, .slice c.gMoves_a c.gMoves_n c.gMoves_c]) (by kernel_rfl) rfl (by kernel_rfl)) ?_
                refine WA.weaken (env' := [(1, .slice la len cap), (2, .pointer (some ⟨b1, 0, none⟩)), (6, .pointer (some ⟨b2, 0, none⟩)), (7, .slice ra ls.length rc), (8, .int .i64 i), (28, .agg #[.slice c.gStates_a c.gStates_n c.gStates_c, .slice c.gInputs_a c.gInputs_n c.gInputs_c, .int .i64 c.gStart, .slice c.gMoves_a c.gMoves_n c.gMoves_c]), (29, .agg #[.int .i64 s, .int .i64 a]), (30, .slice la len cap), (31, .int .i64 i), (32, .pointer (some (p2.add (i).toNat)))]) (by kernel_rfl) ?_
                exact W33 w65 S68
              · skip
                refine WO.set #[false, true, true, true, true, true, false, false, false, false, false, false, false, false, false] (by kernel_rfl) ?_
                refine WO.ok (OK.ldCell 33 3 (p2.add (i).toNat) (.int .i64 (l.getD (i).toNat 0)) (by kernel_rfl) (by kernel_rfl) (S68.cell hc2)) ?_
                refine WA.weaken (env' := [(1, .slice la len cap), (2, .pointer (some ⟨b1, 0, none⟩)), (6, .pointer (some ⟨b2, 0, none⟩)), (7, .slice ra ls.length rc), (8, .int .i64 i), (29, .agg #[.int .i64 s, .int .i64 a]), (30, .slice la len cap), (31, .int .i64 i), (32, .pointer (some (p2.add (i).toNat))), (33, .int .i64 (l.getD (i).toNat 0))]) (by kernel_rfl) ?_
                exact W32 w65 S68
              · skip
                refine WO.set #[false, true, true, true, true, false, false, false, false, false, false, true, false, false, false] (by kernel_rfl) ?_
                refine WO.new S68 9 [.int .i64 0, .int .i64 0] 37 (by kernel_rfl) ?_
                intro bd11 w66 S69
                refine WA.weaken (env' := [(1, .slice la len cap), (2, .pointer (some ⟨b1, 0, none⟩)), (6, .pointer (some ⟨b2, 0, none⟩)), (7, .slice ra ls.length rc), (8, .int .i64 i), (9, .pointer (some ⟨bd11, 0, none⟩)), (29, .agg #[.int .i64 s, .int .i64 a]), (30, .slice la len cap), (31, .int .i64 i), (32, .pointer (some (p2.add (i).toNat)))]) (by kernel_rfl) ?_
                exact W29 bd11 w66 S69
            have W36 : ∀ (w67 : World), Sep w [rowOf encI ra rc 3 1 ls, box b2 [.int .i64 s, .int .i64 a] 37, box b1 [.slice c.gStates_a c.gStates_n c.gStates_c, .slice c.gInputs_a c.gInputs_n c.gInputs_c, .int .i64 c.gStart, .slice c.gMoves_a c.gMoves_n c.gMoves_c] 25] w67 → WA Try.prog 12 48 R K12_9 11 #[false, false, true, true, true, true, false, false, false, false, false, false, false, false, false] [(1, .slice la len cap), (2, .pointer (some ⟨b1, 0, none⟩)), (6, .pointer (some ⟨b2, 0, none⟩)), (7, .slice ra ls.length rc), (8, .int .i64 i), (30, .slice la len cap), (31, .int .i64 i), (32, .pointer (some (p2.add (i).toNat))), (33, .int .i64 (l.getD (i).toNat 0))] w67 := by
              intro w67 S70
              refine WA.all [0, 1, 11] (by kernel_rfl) rfl ⟨?_, ?_, ?_, trivial⟩
              · skip
                refine WO.set #[true, false, true, true, true, true, false, false, false, false, false, false, false, false, false] (by kernel_rfl) ?_
                refine WO.ok (OK.ldBox S70 2 28 25 0 (.agg #[.slice c.gStates_a c.gStates_n c.gStates_c, .slice c.gInputs_a c.gInputs_n c.gInputs_c, .int .i64 c.gStart, .slice c.gMoves_a c.gMoves_n c.gMoves_c]) (by kernel_rfl) rfl (by kernel_rfl)) ?_
                refine WA.weaken (env' := [(1, .slice la len cap), (2, .pointer (some ⟨b1, 0, none⟩)), (6, .pointer (some ⟨b2, 0, none⟩)), (7, .slice ra ls.length rc), (8, .int .i64 i), (28, .agg #[.slice c.gStates_a c.gStates_n c.gStates_c, .slice c.gInputs_a c.gInputs_n c.gInputs_c, .int .i64 c.gStart, .slice c.gMoves_a c.gMoves_n c.gMoves_c]), (30, .slice la len cap), (31, .int .i64 i), (32, .pointer (some (p2.add (i).toNat))), (33, .int .i64 (l.getD (i).toNat 0))]) (by kernel_rfl) ?_
                exact W31 w67 S70
              · skip
                refine WO.set #[false, true, true, true, true, true, false, false, false, false, false, false, false, false, false] (by kernel_rfl) ?_
                refine WO.ok (OK.ldBox S70 1 29 37 0 (.agg #[.int .i64 s, .int .i64 a]) (by kernel_rfl) rfl (by kernel_rfl)) ?_
                refine WA.weaken (env' := [(1, .slice la len cap), (2, .pointer (some ⟨b1, 0, none⟩)), (6, .pointer (some ⟨b2, 0, none⟩)), (7, .slice ra ls.length rc), (8, .int .i64 i), (29, .agg #[.int .i64 s, .int .i64 a]), (30, .slice la len cap), (31, .int .i64 i), (32, .pointer (some (p2.add (i).toNat))), (33, .int .i64 (l.getD (i).toNat 0))]) (by kernel_rfl) ?_
                exact W32 w67 S70
              · skip
                refine WO.set #[false, false, true, true, true, true, false, false, false, false, false, true, false, false, false] (by kernel_rfl) ?_
                refine WO.new S70 9 [.int .i64 0, .int .i64 0] 37 (by kernel_rfl) ?_
                intro bd11 w68 S71
                refine WA.weaken (env' := [(1, .slice la len cap), (2, .pointer (some ⟨b1, 0, none⟩)), (6, .pointer (some ⟨b2, 0, none⟩)), (7, .slice ra ls.length rc), (8, .int .i64 i), (9, .pointer (some ⟨bd11, 0, none⟩)), (30, .slice la len cap), (31, .int .i64 i), (32, .pointer (some (p2.add (i).toNat))), (33, .int .i64 (l.getD (i).toNat 0))]) (by kernel_rfl) ?_
                exact W30 bd11 w68 S71
            have W37 : ∀ (bd11 : Nat) (w69 : World), Sep w [box bd11 [.int .i64 0, .int .i64 0] 37, rowOf encI ra rc 3 1 ls, box b2 [.int .i64 s, .int .i64 a] 37, box b1 [.slice c.gStates_a c.gStates_n c.gStates_c, .slice c.gInputs_a c.gInputs_n c.gInputs_c, .int .i64 c.gStart, .slice c.gMoves_a c.gMoves_n c.gMoves_c] 25] w69 → WA Try.prog 12 48 R K12_9 11 #[false, false, true, true, true, false, false, false, false, false, false, true, false, false, false] [(1, .slice la len cap), (2, .pointer (some ⟨b1, 0, none⟩)), (6, .pointer (some ⟨b2, 0, none⟩)), (7, .slice ra ls.length rc), (8, .int .i64 i), (9, .pointer (some ⟨bd11, 0, none⟩)), (30, .slice la len cap), (31, .int .i64 i), (32, .pointer (some (p2.add (i).toNat)))] w69 := by
              intro bd11 w69 S72
              refine WA.all [0, 1, 5] (by kernel_rfl) rfl ⟨?_, ?_, ?_, trivial⟩
              · skip
                refine WO.set #[true, false, true, true, true, false, false, false, false, false, false, true, false, false, false] (by kernel_rfl) ?_
                refine WO.ok (OK.ldBox S72 3 28 25 0 (.agg #[.slice c.gStates_a c.gStates_n c.gStates_c, .slice c.gInputs_a c.gInputs_n c.gInputs_c, .int .i64 c.gStart, .slice c.gMoves_a c.gMoves_n c.gMoves_c]) (by kernel_rfl) rfl (by kernel_rfl)) ?_
                refine WA.weaken (env' := [(1, .slice la len cap), (2, .pointer (some ⟨b1, 0, none⟩)), (6, .pointer (some ⟨b2, 0, none⟩)), (7, .slice ra ls.length rc), (8, .int .i64 i), (9, .pointer (some ⟨bd11, 0, none⟩)), (28, .agg #[.slice c.gStates_a c.gStates_n c.gStates_c, .slice c.gInputs_a c.gInputs_n c.gInputs_c, .int .i64 c.gStart, .slice c.gMoves_a c.gMoves_n c.gMoves_c]), (30, .slice la len cap), (31, .int .i64 i), (32, .pointer (some (p2.add (i).toNat)))]) (by kernel_rfl) ?_
                exact W28 bd11 w69 S72
              · skip
                refine WO.set #[false, true, true, true, true, false, false, false, false, false, false, true, false, false, false] (by kernel_rfl) ?_
                refine WO.ok (OK.ldBox S72 2 29 37 0 (.agg #[.int .i64 s, .int .i64 a]) (by kernel_rfl) rfl (by kernel_rfl)) ?_
                refine WA.weaken (env' := [(1, .slice la len cap), (2, .pointer (some ⟨b1, 0, none⟩)), (6, .pointer (some ⟨b2, 0, none⟩)), (7, .slice ra ls.length rc), (8, .int .i64 i), (9, .pointer (some ⟨bd11, 0, none⟩)), (29, .agg #[.int .i64 s, .int .i64 a]), (30, .slice la len cap), (31, .int .i64 i), (32, .pointer (some (p2.add (i).toNat)))]) (by kernel_rfl) ?_
                exact W29 bd11 w69 S72
              · skip
                refine WO.set #[false, false, true, true, true, true, false, false, false, false, false, true, false, false, false] (by kernel_rfl) ?_
                refine WO.ok (OK.ldCell 33 3 (p2.add (i).toNat) (.int .i64 (l.getD (i).toNat 0)) (by kernel_rfl) (by kernel_rfl) (S72.cell hc2)) ?_
                refine WA.weaken (env' := [(1, .slice la len cap), (2, .pointer (some ⟨b1, 0, none⟩)), (6, .pointer (some ⟨b2, 0, none⟩)), (7, .slice ra ls.length rc), (8, .int .i64 i), (9, .pointer (some ⟨bd11, 0, none⟩)), (30, .slice la len cap), (31, .int .i64 i), (32, .pointer (some (p2.add (i).toNat))), (33, .int .i64 (l.getD (i).toNat 0))]) (by kernel_rfl) ?_
                exact W30 bd11 w69 S72
            have W38 : ∀ (w70 : World), Sep w [rowOf encI ra rc 3 1 ls, box b2 [.int .i64 s, .int .i64 a] 37, box b1 [.slice c.gStates_a c.gStates_n c.gStates_c, .slice c.gInputs_a c.gInputs_n c.gInputs_c, .int .i64 c.gStart, .slice c.gMoves_a c.gMoves_n c.gMoves_c] 25] w70 → WA Try.prog 12 48 R K12_9 12 #[false, false, true, true, true, false, false, false, false, false, false, false, false, false, false] [(1, .slice la len cap), (2, .pointer (some ⟨b1, 0, none⟩)), (6, .pointer (some ⟨b2, 0, none⟩)), (7, .slice ra ls.length rc), (8, .int .i64 i), (30, .slice la len cap), (31, .int .i64 i), (32, .pointer (some (p2.add (i).toNat)))] w70 := by
              intro w70 S73
              refine WA.all [0, 1, 5, 11] (by kernel_rfl) rfl ⟨?_, ?_, ?_, ?_, trivial⟩
              · skip
                refine WO.set #[true, false, true, true, true, false, false, false, false, false, false, false, false, false, false] (by kernel_rfl) ?_
                refine WO.ok (OK.ldBox S73 2 28 25 0 (.agg #[.slice c.gStates_a c.gStates_n c.gStates_c, .slice c.gInputs_a c.gInputs_n c.gInputs_c, .int .i64 c.gStart, .slice c.gMoves_a c.gMoves_n c.gMoves_c]) (by kernel_rfl) rfl (by kernel_rfl)) ?_
                refine WA.weaken (env' := [(1, .slice la len cap), (2, .pointer (some ⟨b1, 0, none⟩)), (6, .pointer (some ⟨b2, 0, none⟩)), (7, .slice ra ls.length rc), (8, .int .i64 i), (28, .agg #[.slice c.gStates_a c.gStates_n c.gStates_c, .slice c.gInputs_a c.gInputs_n c.gInputs_c, .int .i64 c.gStart, .slice c.gMoves_a c.gMoves_n c.gMoves_c]), (30, .slice la len cap), (31, .int .i64 i), (32, .pointer (some (p2.add (i).toNat)))]) (by kernel_rfl) ?_
                exact W34 w70 S73
              · skip
                refine WO.set #[false, true, true, true, true, false, false, false, false, false, false, false, false, false, false] (by kernel_rfl) ?_
                refine WO.ok (OK.ldBox S73 1 29 37 0 (.agg #[.int .i64 s, .int .i64 a]) (by kernel_rfl) rfl (by kernel_rfl)) ?_
                refine WA.weaken (env' := [(1, .slice la len cap), (2, .pointer (some ⟨b1, 0, none⟩)), (6, .pointer (some ⟨b2, 0, none⟩)), (7, .slice ra ls.length rc), (8, .int .i64 i), (29, .agg #[.int .i64 s, .int .i64 a]), (30, .slice la len cap), (31, .int .i64 i), (32, .pointer (some (p2.add (i).toNat)))]) (by kernel_rfl) ?_
                exact W35 w70 S73
              · skip
                refine WO.set #[false, false, true, true, true, true, false, false, false, false, false, false, false, false, false] (by kernel_rfl) ?_
                refine WO.ok (OK.ldCell 33 3 (p2.add (i).toNat) (.int .i64 (l.getD (i).toNat 0)) (by kernel_rfl) (by kernel_rfl) (S73.cell hc2)) ?_
                refine WA.weaken (env' := [(1, .slice la len cap), (2, .pointer (some ⟨b1, 0, none⟩)), (6, .pointer (some ⟨b2, 0, none⟩)), (7, .slice ra ls.length rc), (8, .int .i64 i), (30, .slice la len cap), (31, .int .i64 i), (32, .pointer (some (p2.add (i).toNat))), (33, .int .i64 (l.getD (i).toNat 0))]) (by kernel_rfl) ?_
                exact W36 w70 S73
              · skip
                refine WO.set #[false, false, true, true, true, false, false, false, false, false, false, true, false, false, false] (by kernel_rfl) ?_
                refine WO.new S73 9 [.int .i64 0, .int .i64 0] 37 (by kernel_rfl) ?_
                intro bd11 w71 S74
                refine WA.weaken (env' := [(1, .slice la len cap), (2, .pointer (some ⟨b1, 0, none⟩)), (6, .pointer (some ⟨b2, 0, none⟩)), (7, .slice ra ls.length rc), (8, .int .i64 i), (9, .pointer (some ⟨bd11, 0, none⟩)), (30, .slice la len cap), (31, .int .i64 i), (32, .pointer (some (p2.add (i).toNat)))]) (by kernel_rfl) ?_
                exact W37 bd11 w71 S74
            refine J.drawAny S6 15 #[false, false, false, false, false, false, false, false, false, false, false, false, false, false, false] Try.mixed (by kernel_rfl) (by kernel_rfl) (by kernel_rfl) ?_
            intro w72 S75
            refine WA.take 2 30 (.slice la len cap) #[false, false, true, false, false, false, false, false, false, false, false, false, false, false, false] (by kernel_rfl) (by kernel_rfl) (by kernel_rfl) (fun _ => by kernel_rfl) (by kernel_rfl) ?_
            refine WA.take 3 31 (.int .i64 i) #[false, false, true, true, false, false, false, false, false, false, false, false, false, false, false] (by kernel_rfl) (by kernel_rfl) (by kernel_rfl) (fun _ => by kernel_rfl) (by kernel_rfl) ?_
            refine WA.takeOK 4 #[false, false, true, true, true, false, false, false, false, false, false, false, false, false, false] (by kernel_rfl) (by kernel_rfl) (by kernel_rfl) (by kernel_rfl) (fun _ => OK.index 32 26 1 la p2 len (i).toNat i (p2.add (i).toNat) (by kernel_rfl) (by kernel_rfl) hp2 (by omega) (by omega) (by rw [Nat.mul_one])) rfl ?_
            refine WA.weaken (env' := [(1, .slice la len cap), (2, .pointer (some ⟨b1, 0, none⟩)), (6, .pointer (some ⟨b2, 0, none⟩)), (7, .slice ra ls.length rc), (8, .int .i64 i), (30, .slice la len cap), (31, .int .i64 i), (32, .pointer (some (p2.add (i).toNat)))]) (by kernel_rfl) ?_
            exact W38 w72 S75
        · skip
          refine J.head (.bool false) (congrArg Value.bool (decide_eq_false fk3)) ?_
          refine J.run 8 K12_14 [(5, .int .i64 0), (4, .slice ra ls.length rc)] w5 (by kernel_rfl) ?_
          refine J.ret Try.f12 [.slice ra ls.length rc, .int .i64 0] Try.func12 ⟨by kernel_rfl, by kernel_rfl, trivial⟩ ?_
          refine hR _ _ ?_
          obtain ⟨e1, e2⟩ := run_ok (c := c) (l := l) fk1 (by omega) (none_out fun j hj => hin j (by omega))
          have e3 : ls = runO c l := by rw [e2, hls, show i.toNat = l.length by omega]
          subst e3
          exact ⟨ra, rc, by rw [tup_two, e1], S6.pick 0 rfl⟩
      exact L12_1 _ none 0 ([]) c.gStart 0 0 w4 (by omega) (by omega) (rfl) (rfl) (rfl) (rfl) (by intro j hj; simp at hj) S5 rfl
  · skip
    refine J.head (.bool true) (congrArg Value.bool (by rw [fk1]; rfl)) ?_
    refine J.run 6 K12_15 [(5, .int .i64 1), (4, .slice none 0 0)] w2 (by kernel_rfl) ?_
    refine J.ret Try.f12 [.slice none 0 0, .int .i64 1] Try.func12 ⟨by kernel_rfl, by kernel_rfl, trivial⟩ ?_
    refine hR _ _ ?_
    have e1 := run_e1 (c := c) (l := l) fk1
    have e2 := run_err e1 (by omega)
    exact ⟨none, 0, by rw [tup_two, e1, e2]; rfl, by rw [e2]; exact (S2.nilRow 3 1).pick 0 rfl⟩

end Go.Proofs.Ytbbpgidmadlgmaa
