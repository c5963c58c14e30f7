/- Walks of functions of this seat, printed by a program over the engine. Conditions: as each theorem says. -/
import Derived.Test.YtbbpgidmadlgmaaC6
namespace Go.Proofs.Ytbbpgidmadlgmaa
open Go.Eng Go.RowKit
set_option linter.unusedSimpArgs false
set_option linter.unusedVariables false
theorem wrap_toInt (b : BitVec 64) : IntKind.wrap .i64 (b.toNat : Int) = b.toInt := by
  have h := b.isLt
  rw [IntKind.wrap_i64, BitVec.toInt_eq_toNat_bmod, Int.bmod_def]
  split <;> omega
theorem ofInt_toInt {x : Int} (h : -9223372036854775808 ≤ x ∧ x ≤ 9223372036854775807) : (BitVec.ofInt 64 x).toInt = x := by
  rw [BitVec.toInt_ofInt, Int.bmod_def]; split <;> omega
theorem andF_comm (x y : Int) : andF x y = andF y x := by unfold andF; rw [BitVec.and_comm]
theorem bv_andnot (o x : BitVec 64) : o &&& ~~~x = 0#64 ↔ x &&& o = o := by
  constructor
  · intro h
    apply BitVec.eq_of_getLsbD_eq
    intro i hi
    have := congrArg (fun b => b.getLsbD i) h
    simp [hi] at this ⊢
    exact this
  · intro h
    apply BitVec.eq_of_getLsbD_eq
    intro i hi
    have := congrArg (fun b => b.getLsbD i) h
    simp [hi] at this ⊢
    exact this
theorem andNot_iff {o x : Int} (h : -9223372036854775808 ≤ o ∧ o ≤ 9223372036854775807) : IntKind.wrap .i64 ((BitVec.ofInt 64 o &&& ~~~(BitVec.ofInt 64 x)).toNat : Int) = 0 ↔ andF x o = o := by
  unfold andF
  rw [wrap_toInt, wrap_toInt]
  constructor
  · intro h2
    have h3 : BitVec.ofInt 64 o &&& ~~~(BitVec.ofInt 64 x) = 0#64 := BitVec.eq_of_toInt_eq (by rw [h2]; rfl)
    rw [(bv_andnot _ _).1 h3, ofInt_toInt h]
  · intro h2
    have h3 : BitVec.ofInt 64 x &&& BitVec.ofInt 64 o = BitVec.ofInt 64 o := BitVec.eq_of_toInt_eq (by rw [h2, ofInt_toInt h])
    rw [(bv_andnot _ _).2 h3]; rfl
theorem step_moves (c : Cht) (s a x : Int) : (stepI c s a x < 0 → stepS c s a x = s ∧ stepA c s a x = min (a + 1) 1000) ∧ (¬ stepI c s a x < 0 → stepS c s a x = (c.gMoves_l.getD (stepI c s a x).toNat (⟨0, 0, 0, 0, 0⟩ : Mv)).gTo ∧ stepA c s a x = 0) := by
  constructor <;> intro h
  · unfold stepS stepA; rw [if_pos h, if_pos h]; exact ⟨rfl, rfl⟩
  · unfold stepS stepA; rw [if_neg h, if_neg h]; exact ⟨rfl, rfl⟩
theorem run_inv {c : Cht} {l : List Int} (h : runE c l = 0) : validC c = true ∧ l.length ≤ 1000 ∧ (∀ j, j < l.length → insideB c (l.getD j 0) = true) ∧ runO c l = outF c l l.length := by
  have h1 : validC c = true := by
    cases hv : validC c with
    | true => rfl
    | false => rw [run_e1 hv] at h; exact absurd h (by decide)
  have h2 : l.length ≤ 1000 := by
    rcases Nat.lt_or_ge 1000 l.length with h2 | h2
    · rw [run_e5 h1 h2] at h; exact absurd h (by decide)
    · exact h2
  have h3 : (l.any fun x => !insideB c x) = false := by
    cases hv : (l.any fun x => !insideB c x) with
    | false => rfl
    | true => rw [run_e2 h1 h2 hv] at h; exact absurd h (by decide)
  refine ⟨h1, h2, fun j hj => ?_, (run_ok h1 h2 h3).2⟩
  rw [List.any_eq_false] at h3
  have := h3 (l.getD j 0) (by rw [List.getD_eq_getElem?_getD, List.getElem?_eq_getElem hj]; exact List.getElem_mem hj)
  simpa using this
theorem outF_getD {c : Cht} {l : List Int} {n j : Nat} (h : j < n) : (outF c l n).getD j 0 = (stF c l (j + 1)).1 := by simp [outF, List.getD, h]
theorem stF_take {c : Cht} {l : List Int} {k : Nat} : ∀ j, j ≤ k → stF c (l.take k) j = stF c l j := by
  intro j
  induction j with
  | zero => intro _; rfl
  | succ j ih =>
    intro hj
    have e : (l.take k).getD j 0 = l.getD j 0 := by simp only [List.getD, List.getElem?_take]; rw [if_pos (by omega)]
    simp only [stF, ih (by omega), e]
theorem run_take {c : Cht} {l : List Int} (h : runE c l = 0) {k : Nat} (hk : k ≤ l.length) : runE c (l.take k) = 0 ∧ runO c (l.take k) = (runO c l).take k := by
  obtain ⟨h1, h2, h3, h4⟩ := run_inv h
  have hlen : (l.take k).length = k := by rw [List.length_take]; omega
  have h5 : ((l.take k).any fun x => !insideB c x) = false := none_out fun j hj => by
    rw [hlen] at hj
    have e : (l.take k).getD j 0 = l.getD j 0 := by simp only [List.getD, List.getElem?_take]; rw [if_pos hj]
    rw [e]; exact h3 j (by omega)
  obtain ⟨h6, h7⟩ := run_ok h1 (l := l.take k) (by omega) h5
  refine ⟨h6, ?_⟩
  rw [h7, h4, hlen]
  refine list_ext_getD (by simp [outF_length]; omega) fun j hj => ?_
  rw [outF_length] at hj
  have e : ((outF c l l.length).take k).getD j 0 = (outF c l l.length).getD j 0 := by simp only [List.getD, List.getElem?_take]; rw [if_pos hj]
  rw [e, outF_getD hj, outF_getD (by omega), stF_take _ (by omega)]

theorem hb16 : HasBody Try.prog 16 := fun _ _ => by kernel_rfl
noncomputable def K16_0 : List Item := adv 2 [] (bodyOf Try.f16)
noncomputable def K16_1 : List Item := adv 5 [] (popK K16_0)
noncomputable def K16_2 : List Item := adv 1 [] (popK K16_1)
noncomputable def K16_3 : List Item := adv 2 [] (popK K16_2)
noncomputable def K16_4 : List Item := adv 1 [] K16_3
noncomputable def K16_5 : List Item := adv 1 [] (popK K16_4)
noncomputable def K16_6 : List Item := adv 3 [] (popK K16_5)
noncomputable def K16_7 : List Item := adv 1 [] K16_6
noncomputable def K16_8 : List Item := adv 4 [] (popK (popK K16_7))
noncomputable def K16_9 : List Item := adv 1 [] K16_8
noncomputable def K16_10 : List Item := adv 5 [] (popK (popK K16_9))
noncomputable def K16_11 : List Item := adv 8 [] K16_8
noncomputable def K16_12 : List Item := adv 15 [] K16_6
noncomputable def K16_13 : List Item := adv 22 [] K16_3
set_option maxRecDepth 20000 in
set_option maxHeartbeats 20000000 in
theorem ages1_any (s a x : Int) (bx1 bx2 : Nat) (m : Mv) (w : World) (hon : -9223372036854775808 ≤ m.gOn ∧ m.gOn ≤ 9223372036854775807) (hb1 : (box bx1 [.int .i64 s, .int .i64 a] 37).holds w) (hb2 : (box bx2 [.int .i64 x] 3).holds w) : Ret Try.prog 16 #[.agg #[.int .i64 m.gFrom, .int .i64 m.gTo, .int .i64 m.gOn, .int .i64 m.gOff, .int .i64 m.gAfter], .pointer (some ⟨bx1, 0, none⟩), .pointer (some ⟨bx2, 0, none⟩)] w (fun v w' => v = .bool (fitB s a x m) ∧ Sep w [] w') := by
  have S0 := Sep.refl w
  refine Ret.named fun R hR => ?_
  refine Ret.of_J (N := 31) [(0, .agg #[.int .i64 m.gFrom, .int .i64 m.gTo, .int .i64 m.gOn, .int .i64 m.gOff, .int .i64 m.gAfter]), (1, .pointer (some ⟨bx1, 0, none⟩)), (2, .pointer (some ⟨bx2, 0, none⟩))] Try.func16 rfl rfl (Nat.le_of_ble_eq_true (by kernel_rfl)) (by kernel_rfl) ?_
  refine J.run 2 K16_0 [(0, .agg #[.int .i64 m.gFrom, .int .i64 m.gTo, .int .i64 m.gOn, .int .i64 m.gOff, .int .i64 m.gAfter]), (1, .pointer (some ⟨bx1, 0, none⟩)), (2, .pointer (some ⟨bx2, 0, none⟩))] w (by kernel_rfl) ?_
  refine J.new S0 3 [.int .i64 m.gFrom, .int .i64 m.gTo, .int .i64 m.gOn, .int .i64 m.gOff, .int .i64 m.gAfter] 42 (by kernel_rfl) ?_
  intro b1 w1 S1
  refine J.run 5 K16_1 [(5, .pointer (some ⟨b1, 0, none⟩)), (3, .pointer (some ⟨b1, 0, none⟩)), (1, .pointer (some ⟨bx1, 0, none⟩)), (2, .pointer (some ⟨bx2, 0, none⟩))] w1 (by kernel_rfl) ?_
  refine J.ok (OK.ldBox S1 0 6 3 0 (.int .i64 m.gFrom) (by kernel_rfl) rfl (by kernel_rfl)) ?_
  refine J.run 1 K16_2 [(7, .pointer (some ⟨bx1, 0, none⟩)), (6, .int .i64 m.gFrom), (3, .pointer (some ⟨b1, 0, none⟩)), (1, .pointer (some ⟨bx1, 0, none⟩)), (2, .pointer (some ⟨bx2, 0, none⟩))] w1 (by kernel_rfl) ?_
  refine J.ok (OK.ldRo S1 hb1 8 3 0 (.int .i64 s) (by kernel_rfl) (by kernel_rfl)) ?_
  refine J.run 2 K16_3 [(10, .bool (m.gFrom == s)), (3, .pointer (some ⟨b1, 0, none⟩)), (1, .pointer (some ⟨bx1, 0, none⟩)), (2, .pointer (some ⟨bx2, 0, none⟩))] w1 (by kernel_rfl) ?_
  by_cases fk1 : m.gFrom = s
  · skip
    refine J.head (.bool true) (congrArg Value.bool (beq_iff_eq.2 fk1)) ?_
    refine J.run 1 K16_4 [(11, .pointer (some ⟨bx1, 1, none⟩)), (10, .bool true), (3, .pointer (some ⟨b1, 0, none⟩)), (2, .pointer (some ⟨bx2, 0, none⟩))] w1 (by kernel_rfl) ?_
    refine J.ok (OK.ldRo S1 hb1 12 3 1 (.int .i64 a) (by kernel_rfl) (by kernel_rfl)) ?_
    refine J.run 1 K16_5 [(13, .pointer (some ⟨b1, 4, none⟩)), (12, .int .i64 a), (10, .bool true), (3, .pointer (some ⟨b1, 0, none⟩)), (2, .pointer (some ⟨bx2, 0, none⟩))] w1 (by kernel_rfl) ?_
    refine J.ok (OK.ldBox S1 0 14 3 4 (.int .i64 m.gAfter) (by kernel_rfl) rfl (by kernel_rfl)) ?_
    refine J.run 3 K16_6 [(17, .bool (decide (a ≥ m.gAfter))), (3, .pointer (some ⟨b1, 0, none⟩)), (2, .pointer (some ⟨bx2, 0, none⟩))] w1 (by kernel_rfl) ?_
    by_cases fk2 : a ≥ m.gAfter
    · skip
      refine J.head (.bool true) (congrArg Value.bool (decide_eq_true fk2)) ?_
      refine J.run 1 K16_7 [(18, .pointer (some ⟨b1, 2, none⟩)), (17, .bool true), (3, .pointer (some ⟨b1, 0, none⟩)), (2, .pointer (some ⟨bx2, 0, none⟩))] w1 (by kernel_rfl) ?_
      refine J.ok (OK.ldBox S1 0 19 3 2 (.int .i64 m.gOn) (by kernel_rfl) rfl (by kernel_rfl)) ?_
      refine J.ok (OK.ldRo S1 hb2 20 3 0 (.int .i64 x) (by kernel_rfl) (by kernel_rfl)) ?_
      refine J.run 4 K16_8 [(24, .bool ((IntKind.wrap .i64 ((BitVec.ofInt 64 m.gOn &&& ~~~(BitVec.ofInt 64 x)).toNat : Int)) == 0)), (3, .pointer (some ⟨b1, 0, none⟩)), (2, .pointer (some ⟨bx2, 0, none⟩))] w1 (by kernel_rfl) ?_
      by_cases fk3 : (IntKind.wrap .i64 ((BitVec.ofInt 64 m.gOn &&& ~~~(BitVec.ofInt 64 x)).toNat : Int)) = 0
      · skip
        refine J.head (.bool true) (congrArg Value.bool (beq_iff_eq.2 fk3)) ?_
        refine J.run 1 K16_9 [(25, .pointer (some ⟨b1, 3, none⟩)), (24, .bool true), (2, .pointer (some ⟨bx2, 0, none⟩))] w1 (by kernel_rfl) ?_
        refine J.ok (OK.ldBox S1 0 26 3 3 (.int .i64 m.gOff) (by kernel_rfl) rfl (by kernel_rfl)) ?_
        refine J.ok (OK.ldRo S1 hb2 27 3 0 (.int .i64 x) (by kernel_rfl) (by kernel_rfl)) ?_
        refine J.run 5 K16_10 [(4, .bool ((IntKind.wrap .i64 ((BitVec.ofInt 64 m.gOff &&& (BitVec.ofInt 64 x)).toNat : Int)) == 0))] w1 (by kernel_rfl) ?_
        refine J.ret Try.f16 [.bool ((IntKind.wrap .i64 ((BitVec.ofInt 64 m.gOff &&& (BitVec.ofInt 64 x)).toNat : Int)) == 0)] Try.func16 ⟨by kernel_rfl, trivial⟩ ?_
        refine hR _ _ ?_
        have h1 := andNot_iff (o := m.gOn) (x := x) hon
        have h2 := andF_comm x m.gOff
        unfold andF at h2
        exact ⟨congrArg Value.bool (by rw [Bool.eq_iff_iff]; simp only [fitB, Bool.and_eq_true, decide_eq_true_eq, beq_iff_eq, Bool.false_eq_true, iff_false, false_iff, true_iff, iff_true]; unfold andF at *; omega), S1.nil⟩
      · skip
        refine J.head (.bool false) (congrArg Value.bool (beq_eq_false_iff_ne.2 fk3)) ?_
        refine J.run 8 K16_11 [(4, .bool false)] w1 (by kernel_rfl) ?_
        refine J.ret Try.f16 [.bool false] Try.func16 ⟨by kernel_rfl, trivial⟩ ?_
        refine hR _ _ ?_
        have h1 := andNot_iff (o := m.gOn) (x := x) hon
        have h2 := andF_comm x m.gOff
        unfold andF at h2
        exact ⟨congrArg Value.bool (by rw [Bool.eq_iff_iff]; simp only [fitB, Bool.and_eq_true, decide_eq_true_eq, beq_iff_eq, Bool.false_eq_true, iff_false, false_iff, true_iff, iff_true]; unfold andF at *; omega), S1.nil⟩
    · skip
      refine J.head (.bool false) (congrArg Value.bool (decide_eq_false fk2)) ?_
      refine J.run 15 K16_12 [(4, .bool false)] w1 (by kernel_rfl) ?_
      refine J.ret Try.f16 [.bool false] Try.func16 ⟨by kernel_rfl, trivial⟩ ?_
      refine hR _ _ ?_
      have h1 := andNot_iff (o := m.gOn) (x := x) hon
      have h2 := andF_comm x m.gOff
      unfold andF at h2
      exact ⟨congrArg Value.bool (by rw [Bool.eq_iff_iff]; simp only [fitB, Bool.and_eq_true, decide_eq_true_eq, beq_iff_eq, Bool.false_eq_true, iff_false, false_iff, true_iff, iff_true]; unfold andF at *; omega), S1.nil⟩
  · skip
    refine J.head (.bool false) (congrArg Value.bool (beq_eq_false_iff_ne.2 fk1)) ?_
    refine J.run 22 K16_13 [(4, .bool false)] w1 (by kernel_rfl) ?_
    refine J.ret Try.f16 [.bool false] Try.func16 ⟨by kernel_rfl, trivial⟩ ?_
    refine hR _ _ ?_
    have h1 := andNot_iff (o := m.gOn) (x := x) hon
    have h2 := andF_comm x m.gOff
    unfold andF at h2
    exact ⟨congrArg Value.bool (by rw [Bool.eq_iff_iff]; simp only [fitB, Bool.and_eq_true, decide_eq_true_eq, beq_iff_eq, Bool.false_eq_true, iff_false, false_iff, true_iff, iff_true]; unfold andF at *; omega), S1.nil⟩

theorem hb4 : HasBody Try.prog 4 := fun _ _ => by kernel_rfl
noncomputable def K4_0 : List Item := adv 2 [] (bodyOf Try.f4)
noncomputable def K4_1 : List Item := adv 5 [] (popK (popK (popK K4_0)))
noncomputable def K4_2 : List Item := adv 2 [] (popK K4_1)
noncomputable def K4_3 : List Item := adv 3 [] (popK (popK K4_2))
noncomputable def K4_4 : List Item := adv 4 [false] K4_3
noncomputable def K4_5 : List Item := adv 4 [] (popK (popK (popK (popK K4_4))))
noncomputable def K4_6 : List Item := adv 14 [false] (popK (popK K4_5))
noncomputable def K4_7 : List Item := adv 1 [] (popK K4_6)
noncomputable def K4_8 : List Item := adv 8 [] (popK K4_7)
noncomputable def K4_9 : List Item := adv 6 [true] K4_8
noncomputable def K4_10 : List Item := adv 1 [] K4_9
noncomputable def K4_11 : List Item := adv 1 [] (popK K4_10)
noncomputable def K4_12 : List Item := adv 3 [] (popK K4_11)
noncomputable def K4_13 : List Item := adv 1 [] K4_12
noncomputable def K4_14 : List Item := adv 1 [] (popK K4_13)
noncomputable def K4_15 : List Item := adv 1 [] (popK K4_14)
noncomputable def K4_16 : List Item := adv 1 [] K4_15
noncomputable def K4_17 : List Item := adv 4 [] K4_16
noncomputable def K4_18 : List Item := adv 10 [] K4_12
noncomputable def K4_19 : List Item := adv 17 [] K4_9
noncomputable def K4_20 : List Item := adv 3 [false] K4_8
noncomputable def K4_21 : List Item := adv 4 [] (popK (popK (popK (popK K4_4))))
noncomputable def K4_22 : List Item := adv 12 [true] (popK (popK K4_21))
noncomputable def K4_23 : List Item := adv 1 [] (popK K4_22)
noncomputable def K4_24 : List Item := adv 6 [] (popK K4_23)
noncomputable def K4_25 : List Item := adv 4 [] (popK (popK (popK (popK K4_4))))
noncomputable def K4_26 : List Item := adv 12 [true] (popK (popK K4_25))
noncomputable def K4_27 : List Item := adv 1 [] (popK K4_26)
noncomputable def K4_28 : List Item := adv 6 [] (popK K4_27)
noncomputable def K4_29 : List Item := adv 4 [] (popK (popK (popK (popK K4_4))))
noncomputable def K4_30 : List Item := adv 12 [true] (popK (popK K4_29))
noncomputable def K4_31 : List Item := adv 1 [] (popK K4_30)
noncomputable def K4_32 : List Item := adv 6 [] (popK K4_31)
noncomputable def K4_33 : List Item := adv 3 [true] K4_3
noncomputable def K4_34 : List Item := adv 2 [] (popK K4_33)
set_option maxRecDepth 20000 in
set_option maxHeartbeats 20000000 in
theorem lawages_any (c : Cht) (s a x : Int) (w : World) (hc : chtQ w c) : Ret Try.prog 4 #[.agg #[.slice c.gStates_a c.gStates_n c.gStates_c, .slice c.gInputs_a c.gInputs_n c.gInputs_c, .int .i64 c.gStart, .slice c.gMoves_a c.gMoves_n c.gMoves_c], .agg #[.int .i64 s, .int .i64 a], .int .i64 x] w (fun v w' => v = .bool true ∧ Sep w [] w') := by
  have S0 := Sep.refl w
  refine Ret.named fun R hR => ?_
  refine Ret.of_J (N := 74) [(0, .agg #[.slice c.gStates_a c.gStates_n c.gStates_c, .slice c.gInputs_a c.gInputs_n c.gInputs_c, .int .i64 c.gStart, .slice c.gMoves_a c.gMoves_n c.gMoves_c]), (1, .agg #[.int .i64 s, .int .i64 a]), (2, .int .i64 x)] Try.func4 rfl rfl (Nat.le_of_ble_eq_true (by kernel_rfl)) (by kernel_rfl) ?_
  obtain ⟨q1, q2, q3, q4, q5, q6, q7, q8, q9, q10, _⟩ := id hc
  have ql1 := q2.len_eq
  have ql2 := q5.len_eq
  have ql3 := q9.len_eq
  refine J.run 2 K4_0 [(0, .agg #[.slice c.gStates_a c.gStates_n c.gStates_c, .slice c.gInputs_a c.gInputs_n c.gInputs_c, .int .i64 c.gStart, .slice c.gMoves_a c.gMoves_n c.gMoves_c]), (1, .agg #[.int .i64 s, .int .i64 a]), (2, .int .i64 x)] w (by kernel_rfl) ?_
  refine J.new S0 3 [.slice c.gStates_a c.gStates_n c.gStates_c, .slice c.gInputs_a c.gInputs_n c.gInputs_c, .int .i64 c.gStart, .slice c.gMoves_a c.gMoves_n c.gMoves_c] 25 (by kernel_rfl) ?_
  intro b1 w1 S1
  refine J.new S1 4 [.int .i64 s, .int .i64 a] 37 (by kernel_rfl) ?_
  intro b2 w2 S2
  refine J.new S2 5 [.int .i64 x] 3 (by kernel_rfl) ?_
  intro b3 w3 S3
  refine J.run 5 K4_1 [(5, .pointer (some ⟨b3, 0, none⟩)), (4, .pointer (some ⟨b2, 0, none⟩)), (3, .pointer (some ⟨b1, 0, none⟩))] w3 (by kernel_rfl) ?_
  refine J.callF 11 9 #[] hb9 (by kernel_rfl) (awake_any  _) ?_
  rintro _ w4 ⟨rfl, T1⟩
  have S4 : Sep w [box b3 [.int .i64 x] 3, box b2 [.int .i64 s, .int .i64 a] 37, box b1 [.slice c.gStates_a c.gStates_n c.gStates_c, .slice c.gInputs_a c.gInputs_n c.gInputs_c, .int .i64 c.gStart, .slice c.gMoves_a c.gMoves_n c.gMoves_c] 25] w4 := S3.trans T1
  clear T1 S3
  refine J.run 2 K4_2 [(13, .bool false), (5, .pointer (some ⟨b3, 0, none⟩)), (4, .pointer (some ⟨b2, 0, none⟩)), (3, .pointer (some ⟨b1, 0, none⟩))] w4 (by kernel_rfl) ?_
  refine J.ok (OK.ldBox S4 2 14 25 0 (.agg #[.slice c.gStates_a c.gStates_n c.gStates_c, .slice c.gInputs_a c.gInputs_n c.gInputs_c, .int .i64 c.gStart, .slice c.gMoves_a c.gMoves_n c.gMoves_c]) (by kernel_rfl) rfl (by kernel_rfl)) ?_
  refine J.callF 15 10 #[.agg #[.slice c.gStates_a c.gStates_n c.gStates_c, .slice c.gInputs_a c.gInputs_n c.gInputs_c, .int .i64 c.gStart, .slice c.gMoves_a c.gMoves_n c.gMoves_c]] hb10 (by kernel_rfl) (small_any c _ (chtQ_sep hc S4)) ?_
  rintro _ w5 ⟨rfl, T2⟩
  have S5 : Sep w [box b3 [.int .i64 x] 3, box b2 [.int .i64 s, .int .i64 a] 37, box b1 [.slice c.gStates_a c.gStates_n c.gStates_c, .slice c.gInputs_a c.gInputs_n c.gInputs_c, .int .i64 c.gStart, .slice c.gMoves_a c.gMoves_n c.gMoves_c] 25] w5 := S4.trans T2
  clear T2 S4
  refine J.run 3 K4_3 [(17, .bool (!(smallB c))), (5, .pointer (some ⟨b3, 0, none⟩)), (4, .pointer (some ⟨b2, 0, none⟩)), (3, .pointer (some ⟨b1, 0, none⟩))] w5 (by kernel_rfl) ?_
  rcases Bool.eq_false_or_eq_true (smallB c) with fk1 | fk1
  · skip
    refine J.head (.bool false) (congrArg Value.bool (by rw [fk1]; rfl)) ?_
    refine J.run 4 K4_4 [(5, .pointer (some ⟨b3, 0, none⟩)), (4, .pointer (some ⟨b2, 0, none⟩)), (3, .pointer (some ⟨b1, 0, none⟩))] w5 (by kernel_rfl) ?_
    refine J.ok (OK.ldBox S5 2 20 25 0 (.agg #[.slice c.gStates_a c.gStates_n c.gStates_c, .slice c.gInputs_a c.gInputs_n c.gInputs_c, .int .i64 c.gStart, .slice c.gMoves_a c.gMoves_n c.gMoves_c]) (by kernel_rfl) rfl (by kernel_rfl)) ?_
    refine J.ok (OK.ldBox S5 1 21 37 0 (.agg #[.int .i64 s, .int .i64 a]) (by kernel_rfl) rfl (by kernel_rfl)) ?_
    refine J.ok (OK.ldBox S5 0 22 3 0 (.int .i64 x) (by kernel_rfl) rfl (by kernel_rfl)) ?_
    rcases Bool.eq_false_or_eq_true (validC c) with fk2 | fk2
    · skip
      rcases Bool.eq_false_or_eq_true (okS c s a) with fk3 | fk3
      · skip
        rcases Bool.eq_false_or_eq_true (insideB c x) with fk4 | fk4
        · skip
          refine J.callF 23 14 #[.agg #[.slice c.gStates_a c.gStates_n c.gStates_c, .slice c.gInputs_a c.gInputs_n c.gInputs_c, .int .i64 c.gStart, .slice c.gMoves_a c.gMoves_n c.gMoves_c], .agg #[.int .i64 s, .int .i64 a], .int .i64 x] hb14 (by kernel_rfl) (step3_any c s a x _ (chtQ_sep hc S5)) ?_
          rintro _ w6 ⟨rfl, T3⟩
          have S6 : Sep w [box b3 [.int .i64 x] 3, box b2 [.int .i64 s, .int .i64 a] 37, box b1 [.slice c.gStates_a c.gStates_n c.gStates_c, .slice c.gInputs_a c.gInputs_n c.gInputs_c, .int .i64 c.gStart, .slice c.gMoves_a c.gMoves_n c.gMoves_c] 25] w6 := S5.trans T3
          clear T3 S5
          refine J.head (.tuple #[.agg #[.int .i64 (stepS c s a x), .int .i64 (stepA c s a x)], .int .i64 (stepI c s a x), .int .i64 0]) (by first | (simp only [stepV, fk2, fk3, fk4, reduceCtorEq, ↓reduceIte]; done) | simp [stepV, fk2, fk3, fk4]) ?_
          refine J.run 4 K4_5 [(26, .int .i64 0), (25, .int .i64 (stepI c s a x)), (24, .agg #[.int .i64 (stepS c s a x), .int .i64 (stepA c s a x)]), (5, .pointer (some ⟨b3, 0, none⟩)), (4, .pointer (some ⟨b2, 0, none⟩)), (3, .pointer (some ⟨b1, 0, none⟩))] w6 (by kernel_rfl) ?_
          refine J.new S6 7 [.int .i64 0, .int .i64 0] 37 (by kernel_rfl) ?_
          intro b4 w7 S7
          refine J.stBox S7 0 37 0 (.agg #[.int .i64 (stepS c s a x), .int .i64 (stepA c s a x)]) [.int .i64 (stepS c s a x), .int .i64 (stepA c s a x)] [box b4 [.int .i64 (stepS c s a x), .int .i64 (stepA c s a x)] 37, box b3 [.int .i64 x] 3, box b2 [.int .i64 s, .int .i64 a] 37, box b1 [.slice c.gStates_a c.gStates_n c.gStates_c, .slice c.gInputs_a c.gInputs_n c.gInputs_c, .int .i64 c.gStart, .slice c.gMoves_a c.gMoves_n c.gMoves_c] 25] (by kernel_rfl) rfl (by kernel_rfl) (by kernel_rfl) rfl ?_
          intro w8 S8
          refine J.run 14 K4_6 [(36, .pointer (some ⟨b1, 3, none⟩)), (8, .int .i64 (stepI c s a x)), (7, .pointer (some ⟨b4, 0, none⟩)), (5, .pointer (some ⟨b3, 0, none⟩)), (4, .pointer (some ⟨b2, 0, none⟩)), (3, .pointer (some ⟨b1, 0, none⟩))] w8 (by kernel_rfl) ?_
          refine J.ok (OK.ldBox S8 3 37 23 3 (.slice c.gMoves_a c.gMoves_n c.gMoves_c) (by kernel_rfl) rfl (by kernel_rfl)) ?_
          refine J.run 1 K4_7 [(38, .func (.func 16) #[] #[.pointer (some ⟨b2, 0, none⟩), .pointer (some ⟨b3, 0, none⟩)]), (37, .slice c.gMoves_a c.gMoves_n c.gMoves_c), (8, .int .i64 (stepI c s a x)), (7, .pointer (some ⟨b4, 0, none⟩)), (4, .pointer (some ⟨b2, 0, none⟩)), (3, .pointer (some ⟨b1, 0, none⟩))] w8 (by kernel_rfl) ?_
          refine J.callF 39 15 #[.slice c.gMoves_a c.gMoves_n c.gMoves_c, .func (.func 16) #[] #[.pointer (some ⟨b2, 0, none⟩), .pointer (some ⟨b3, 0, none⟩)]] hb15 (by kernel_rfl) (indexMv c.gMoves_a c.gMoves_n c.gMoves_c c.gMoves_l 16 (.pointer (some ⟨b2, 0, none⟩)) (.pointer (some ⟨b3, 0, none⟩)) (fitB s a x) _ (q9.sep S8) (by first | omega | (simp; omega)) hb16 (fun i_ w_ hi_ S_ => ages1_any s a x b2 b3 _ w_ (getD_Q q10 (⟨0, 0, 0, 0, 0⟩ : Mv) hi_).2.2.1 (box_keep (S8.nth 2 rfl) S_) (box_keep (S8.nth 1 rfl) S_))) ?_
          rintro _ w9 ⟨rfl, T4⟩
          have S9 : Sep w [box b4 [.int .i64 (stepS c s a x), .int .i64 (stepA c s a x)] 37, box b3 [.int .i64 x] 3, box b2 [.int .i64 s, .int .i64 a] 37, box b1 [.slice c.gStates_a c.gStates_n c.gStates_c, .slice c.gInputs_a c.gInputs_n c.gInputs_c, .int .i64 c.gStart, .slice c.gMoves_a c.gMoves_n c.gMoves_c] 25] w9 := S8.trans T4
          clear T4 S8
          refine J.head (.int .i64 (stepI c s a x)) rfl ?_
          obtain ⟨hm1, hm2⟩ := step_moves c s a x
          have hib := stepI_bounds c s a x
          have hok := okS_iff.1 fk3
          refine J.run 8 K4_8 [(41, .bool (decide ((stepI c s a x) < 0))), (10, .int .i64 (stepI c s a x)), (8, .int .i64 (stepI c s a x)), (7, .pointer (some ⟨b4, 0, none⟩)), (4, .pointer (some ⟨b2, 0, none⟩)), (3, .pointer (some ⟨b1, 0, none⟩))] w9 (by kernel_rfl) ?_
          by_cases fk5 : (stepI c s a x) < 0
          · skip
            refine J.head (.bool true) (congrArg Value.bool (decide_eq_true fk5)) ?_
            refine J.run 6 K4_9 [(44, .bool ((stepI c s a x) == (-1))), (7, .pointer (some ⟨b4, 0, none⟩)), (4, .pointer (some ⟨b2, 0, none⟩))] w9 (by kernel_rfl) ?_
            by_cases fk6 : (stepI c s a x) = (-1)
            · skip
              refine J.head (.bool true) (congrArg Value.bool (beq_iff_eq.2 fk6)) ?_
              refine J.run 1 K4_10 [(45, .pointer (some ⟨b4, 0, none⟩)), (44, .bool true), (7, .pointer (some ⟨b4, 0, none⟩)), (4, .pointer (some ⟨b2, 0, none⟩))] w9 (by kernel_rfl) ?_
              refine J.ok (OK.ldBox S9 0 46 3 0 (.int .i64 (stepS c s a x)) (by kernel_rfl) rfl (by kernel_rfl)) ?_
              refine J.run 1 K4_11 [(47, .pointer (some ⟨b2, 0, none⟩)), (46, .int .i64 (stepS c s a x)), (44, .bool true), (7, .pointer (some ⟨b4, 0, none⟩)), (4, .pointer (some ⟨b2, 0, none⟩))] w9 (by kernel_rfl) ?_
              refine J.ok (OK.ldBox S9 2 48 3 0 (.int .i64 s) (by kernel_rfl) rfl (by kernel_rfl)) ?_
              refine J.run 3 K4_12 [(51, .bool ((stepS c s a x) == s)), (7, .pointer (some ⟨b4, 0, none⟩)), (4, .pointer (some ⟨b2, 0, none⟩))] w9 (by kernel_rfl) ?_
              by_cases fk7 : (stepS c s a x) = s
              · skip
                refine J.head (.bool true) (congrArg Value.bool (beq_iff_eq.2 fk7)) ?_
                refine J.run 1 K4_13 [(52, .pointer (some ⟨b4, 1, none⟩)), (51, .bool true), (4, .pointer (some ⟨b2, 0, none⟩))] w9 (by kernel_rfl) ?_
                refine J.ok (OK.ldBox S9 0 53 3 1 (.int .i64 (stepA c s a x)) (by kernel_rfl) rfl (by kernel_rfl)) ?_
                refine J.run 1 K4_14 [(54, .pointer (some ⟨b2, 1, none⟩)), (53, .int .i64 (stepA c s a x)), (51, .bool true)] w9 (by kernel_rfl) ?_
                refine J.ok (OK.ldBox S9 2 55 3 1 (.int .i64 a) (by kernel_rfl) rfl (by kernel_rfl)) ?_
                refine J.run 1 K4_15 [(56, .int .i64 (IntKind.wrap .i64 (a + 1))), (53, .int .i64 (stepA c s a x)), (51, .bool true)] w9 (by kernel_rfl) ?_
                refine J.head (.int .i64 (a + 1)) (congrArg (Value.int .i64) (IntWalk.i64_in _ (by omega))) ?_
                refine J.run 1 K4_16 [(57, .int .i64 (if 1000 < (a + 1) then 1000 else (a + 1))), (53, .int .i64 (stepA c s a x)), (51, .bool true)] w9 (by kernel_rfl) ?_
                refine J.head (.int .i64 (min (a + 1) 1000)) (congrArg (Value.int .i64) (by omega)) ?_
                refine J.run 4 K4_17 [(6, .bool ((stepA c s a x) == (min (a + 1) 1000)))] w9 (by kernel_rfl) ?_
                refine J.ret Try.f4 [.bool ((stepA c s a x) == (min (a + 1) 1000))] Try.func4 ⟨by kernel_rfl, trivial⟩ ?_
                refine hR _ _ ?_
                exact ⟨congrArg Value.bool ((beq_iff_eq.2 (by omega))), S9.nil⟩
              · skip
                refine J.head (.bool false) (congrArg Value.bool (beq_eq_false_iff_ne.2 fk7)) ?_
                refine J.run 10 K4_18 [(6, .bool false)] w9 (by kernel_rfl) ?_
                refine J.ret Try.f4 [.bool false] Try.func4 ⟨by kernel_rfl, trivial⟩ ?_
                refine hR _ _ ?_
                exfalso
                omega
            · skip
              refine J.head (.bool false) (congrArg Value.bool (beq_eq_false_iff_ne.2 fk6)) ?_
              refine J.run 17 K4_19 [(6, .bool false)] w9 (by kernel_rfl) ?_
              refine J.ret Try.f4 [.bool false] Try.func4 ⟨by kernel_rfl, trivial⟩ ?_
              refine hR _ _ ?_
              exfalso
              omega
          · skip
            refine J.head (.bool false) (congrArg Value.bool (decide_eq_false fk5)) ?_
            refine J.run 3 K4_20 [(10, .int .i64 (stepI c s a x)), (8, .int .i64 (stepI c s a x)), (7, .pointer (some ⟨b4, 0, none⟩)), (3, .pointer (some ⟨b1, 0, none⟩))] w9 (by kernel_rfl) ?_
            obtain ⟨p1, hp1, hc1⟩ := q9.at (⟨0, 0, 0, 0, 0⟩ : Mv) (stepI c s a x).toNat (by omega)
            have hq1 := getD_Q q10 (⟨0, 0, 0, 0, 0⟩ : Mv) (n := (stepI c s a x).toNat) (by have := q9.len_eq; omega)
            obtain ⟨q11, q12, q13, q14, q15, _⟩ := id hq1
            refine J.drawStill S9 15 Try.mixed (by kernel_rfl) (by kernel_rfl) (by kernel_rfl) ?_
            intro w10 S10
            refine SL.ok (by decide) (OK.run 60 (.int .i64 (stepI c s a x)) (by kernel_rfl)) ?_
            refine SL.ok (by decide) (OK.run 61 (.int .i64 (stepI c s a x)) (by kernel_rfl)) ?_
            refine SL.ok (by decide) (OK.run 62 (.bool ((stepI c s a x) == (stepI c s a x))) (by kernel_rfl)) ?_
            refine SL.head (.bool true) (congrArg Value.bool (by simp)) ?_
            refine SL.ok (by decide) (OK.run 63 (.bool true) (by kernel_rfl)) ?_
            refine SL.ok (by decide) (OK.ldBox S10 0 64 37 0 (.agg #[.int .i64 (stepS c s a x), .int .i64 (stepA c s a x)]) (by kernel_rfl) rfl (by kernel_rfl)) ?_
            refine SL.ok (by decide) (OK.run 65 (.pointer (some ⟨b1, 3, none⟩)) (by kernel_rfl)) ?_
            refine SL.ok (by decide) (OK.ldBox S10 3 66 23 3 (.slice c.gMoves_a c.gMoves_n c.gMoves_c) (by kernel_rfl) rfl (by kernel_rfl)) ?_
            refine SL.ok (by decide) (OK.run 67 (.int .i64 (stepI c s a x)) (by kernel_rfl)) ?_
            refine SL.ok (by decide) (OK.index 68 23 5 c.gMoves_a p1 c.gMoves_n (stepI c s a x).toNat (stepI c s a x) (p1.add ((stepI c s a x).toNat * 5)) (by kernel_rfl) (by kernel_rfl) hp1 (by omega) (by omega) rfl) ?_
            refine SL.ok (by decide) (OK.run 69 (.pointer (some ((p1.add ((stepI c s a x).toNat * 5)).add 1))) (by kernel_rfl)) ?_
            refine SL.ok (by decide) (OK.ldCell 70 3 ((p1.add ((stepI c s a x).toNat * 5)).add 1) (.int .i64 ((c.gMoves_l.getD (stepI c s a x).toNat (⟨0, 0, 0, 0, 0⟩ : Mv)).gTo)) (by kernel_rfl) (by kernel_rfl) (S10.cell (hc1 1 _ rfl))) ?_
            refine SL.ok (by decide) (OK.run 71 (.agg #[.int .i64 ((c.gMoves_l.getD (stepI c s a x).toNat (⟨0, 0, 0, 0, 0⟩ : Mv)).gTo), .int .i64 0]) (by kernel_rfl)) ?_
            refine SL.ok (by decide) (OK.eqS 72 true 37 #[.int .i64 (stepS c s a x), .int .i64 (stepA c s a x)] #[.int .i64 ((c.gMoves_l.getD (stepI c s a x).toNat (⟨0, 0, 0, 0, 0⟩ : Mv)).gTo), .int .i64 0] (((stepS c s a x) == ((c.gMoves_l.getD (stepI c s a x).toNat (⟨0, 0, 0, 0, 0⟩ : Mv)).gTo)) && (((stepA c s a x) == 0) && true)) (by kernel_rfl) (by kernel_rfl) (by kernel_rfl) (((stepS c s a x) == ((c.gMoves_l.getD (stepI c s a x).toNat (⟨0, 0, 0, 0, 0⟩ : Mv)).gTo)) && ((stepA c s a x) == 0)) (by simp)) ?_
            refine SL.ok (by decide) (OK.run 73 (.bool (((stepS c s a x) == ((c.gMoves_l.getD (stepI c s a x).toNat (⟨0, 0, 0, 0, 0⟩ : Mv)).gTo)) && ((stepA c s a x) == 0))) (by kernel_rfl)) ?_
            refine SL.ok (by decide) (OK.run 6 (.bool (((stepS c s a x) == ((c.gMoves_l.getD (stepI c s a x).toNat (⟨0, 0, 0, 0, 0⟩ : Mv)).gTo)) && ((stepA c s a x) == 0))) (by kernel_rfl)) ?_
            refine SL.done ?_
            refine TL.done (by kernel_rfl) ?_
            refine J.run 0 (rRest K4_20) [(6, .bool (((stepS c s a x) == ((c.gMoves_l.getD (stepI c s a x).toNat (⟨0, 0, 0, 0, 0⟩ : Mv)).gTo)) && ((stepA c s a x) == 0)))] w10 (by kernel_rfl) ?_
            refine J.ret Try.f4 [.bool (((stepS c s a x) == ((c.gMoves_l.getD (stepI c s a x).toNat (⟨0, 0, 0, 0, 0⟩ : Mv)).gTo)) && ((stepA c s a x) == 0))] Try.func4 ⟨by kernel_rfl, trivial⟩ ?_
            refine hR _ _ ?_
            have fk8 : (((stepS c s a x) == ((c.gMoves_l.getD (stepI c s a x).toNat (⟨0, 0, 0, 0, 0⟩ : Mv)).gTo)) && ((stepA c s a x) == 0)) = true := by simp only [Bool.and_eq_true, beq_iff_eq]; omega
            exact ⟨congrArg Value.bool fk8, S10.nil⟩
        · skip
          refine J.callF 23 14 #[.agg #[.slice c.gStates_a c.gStates_n c.gStates_c, .slice c.gInputs_a c.gInputs_n c.gInputs_c, .int .i64 c.gStart, .slice c.gMoves_a c.gMoves_n c.gMoves_c], .agg #[.int .i64 s, .int .i64 a], .int .i64 x] hb14 (by kernel_rfl) (step3_any c s a x _ (chtQ_sep hc S5)) ?_
          rintro _ w11 ⟨rfl, T5⟩
          have S11 : Sep w [box b3 [.int .i64 x] 3, box b2 [.int .i64 s, .int .i64 a] 37, box b1 [.slice c.gStates_a c.gStates_n c.gStates_c, .slice c.gInputs_a c.gInputs_n c.gInputs_c, .int .i64 c.gStart, .slice c.gMoves_a c.gMoves_n c.gMoves_c] 25] w11 := S5.trans T5
          clear T5 S5
          refine J.head (.tuple #[.agg #[.int .i64 0, .int .i64 0], .int .i64 0, .int .i64 2]) (by first | (simp only [stepV, fk2, fk3, fk4, reduceCtorEq, ↓reduceIte]; done) | simp [stepV, fk2, fk3, fk4]) ?_
          refine J.run 4 K4_21 [(26, .int .i64 2), (25, .int .i64 0), (24, .agg #[.int .i64 0, .int .i64 0]), (5, .pointer (some ⟨b3, 0, none⟩)), (4, .pointer (some ⟨b2, 0, none⟩)), (3, .pointer (some ⟨b1, 0, none⟩))] w11 (by kernel_rfl) ?_
          refine J.new S11 7 [.int .i64 0, .int .i64 0] 37 (by kernel_rfl) ?_
          intro b5 w12 S12
          refine J.stBox S12 0 37 0 (.agg #[.int .i64 0, .int .i64 0]) [.int .i64 0, .int .i64 0] [box b5 [.int .i64 0, .int .i64 0] 37, box b3 [.int .i64 x] 3, box b2 [.int .i64 s, .int .i64 a] 37, box b1 [.slice c.gStates_a c.gStates_n c.gStates_c, .slice c.gInputs_a c.gInputs_n c.gInputs_c, .int .i64 c.gStart, .slice c.gMoves_a c.gMoves_n c.gMoves_c] 25] (by kernel_rfl) rfl (by kernel_rfl) (by kernel_rfl) rfl ?_
          intro w13 S13
          refine J.run 12 K4_22 [(8, .int .i64 0), (7, .pointer (some ⟨b5, 0, none⟩))] w13 (by kernel_rfl) ?_
          refine J.ok (OK.ldBox S13 0 29 37 0 (.agg #[.int .i64 0, .int .i64 0]) (by kernel_rfl) rfl (by kernel_rfl)) ?_
          refine J.run 1 K4_23 [(30, .agg #[.int .i64 0, .int .i64 0]), (29, .agg #[.int .i64 0, .int .i64 0]), (8, .int .i64 0)] w13 (by kernel_rfl) ?_
          refine J.ok (OK.eqS 31 true 37 #[.int .i64 0, .int .i64 0] #[.int .i64 0, .int .i64 0] (((0 : Int) == 0) && (((0 : Int) == 0) && true)) (by kernel_rfl) (by kernel_rfl) (by kernel_rfl) true (by simp)) ?_
          refine J.run 6 K4_24 [(6, .bool true)] w13 (by kernel_rfl) ?_
          refine J.ret Try.f4 [.bool true] Try.func4 ⟨by kernel_rfl, trivial⟩ ?_
          refine hR _ _ ?_
          exact ⟨rfl, S13.nil⟩
      · skip
        refine J.callF 23 14 #[.agg #[.slice c.gStates_a c.gStates_n c.gStates_c, .slice c.gInputs_a c.gInputs_n c.gInputs_c, .int .i64 c.gStart, .slice c.gMoves_a c.gMoves_n c.gMoves_c], .agg #[.int .i64 s, .int .i64 a], .int .i64 x] hb14 (by kernel_rfl) (step3_any c s a x _ (chtQ_sep hc S5)) ?_
        rintro _ w14 ⟨rfl, T6⟩
        have S14 : Sep w [box b3 [.int .i64 x] 3, box b2 [.int .i64 s, .int .i64 a] 37, box b1 [.slice c.gStates_a c.gStates_n c.gStates_c, .slice c.gInputs_a c.gInputs_n c.gInputs_c, .int .i64 c.gStart, .slice c.gMoves_a c.gMoves_n c.gMoves_c] 25] w14 := S5.trans T6
        clear T6 S5
        refine J.head (.tuple #[.agg #[.int .i64 0, .int .i64 0], .int .i64 0, .int .i64 1]) (by first | (simp only [stepV, fk2, fk3, reduceCtorEq, ↓reduceIte]; done) | simp [stepV, fk2, fk3]) ?_
        refine J.run 4 K4_25 [(26, .int .i64 1), (25, .int .i64 0), (24, .agg #[.int .i64 0, .int .i64 0]), (5, .pointer (some ⟨b3, 0, none⟩)), (4, .pointer (some ⟨b2, 0, none⟩)), (3, .pointer (some ⟨b1, 0, none⟩))] w14 (by kernel_rfl) ?_
        refine J.new S14 7 [.int .i64 0, .int .i64 0] 37 (by kernel_rfl) ?_
        intro b6 w15 S15
        refine J.stBox S15 0 37 0 (.agg #[.int .i64 0, .int .i64 0]) [.int .i64 0, .int .i64 0] [box b6 [.int .i64 0, .int .i64 0] 37, box b3 [.int .i64 x] 3, box b2 [.int .i64 s, .int .i64 a] 37, box b1 [.slice c.gStates_a c.gStates_n c.gStates_c, .slice c.gInputs_a c.gInputs_n c.gInputs_c, .int .i64 c.gStart, .slice c.gMoves_a c.gMoves_n c.gMoves_c] 25] (by kernel_rfl) rfl (by kernel_rfl) (by kernel_rfl) rfl ?_
        intro w16 S16
        refine J.run 12 K4_26 [(8, .int .i64 0), (7, .pointer (some ⟨b6, 0, none⟩))] w16 (by kernel_rfl) ?_
        refine J.ok (OK.ldBox S16 0 29 37 0 (.agg #[.int .i64 0, .int .i64 0]) (by kernel_rfl) rfl (by kernel_rfl)) ?_
        refine J.run 1 K4_27 [(30, .agg #[.int .i64 0, .int .i64 0]), (29, .agg #[.int .i64 0, .int .i64 0]), (8, .int .i64 0)] w16 (by kernel_rfl) ?_
        refine J.ok (OK.eqS 31 true 37 #[.int .i64 0, .int .i64 0] #[.int .i64 0, .int .i64 0] (((0 : Int) == 0) && (((0 : Int) == 0) && true)) (by kernel_rfl) (by kernel_rfl) (by kernel_rfl) true (by simp)) ?_
        refine J.run 6 K4_28 [(6, .bool true)] w16 (by kernel_rfl) ?_
        refine J.ret Try.f4 [.bool true] Try.func4 ⟨by kernel_rfl, trivial⟩ ?_
        refine hR _ _ ?_
        exact ⟨rfl, S16.nil⟩
    · skip
      refine J.callF 23 14 #[.agg #[.slice c.gStates_a c.gStates_n c.gStates_c, .slice c.gInputs_a c.gInputs_n c.gInputs_c, .int .i64 c.gStart, .slice c.gMoves_a c.gMoves_n c.gMoves_c], .agg #[.int .i64 s, .int .i64 a], .int .i64 x] hb14 (by kernel_rfl) (step3_any c s a x _ (chtQ_sep hc S5)) ?_
      rintro _ w17 ⟨rfl, T7⟩
      have S17 : Sep w [box b3 [.int .i64 x] 3, box b2 [.int .i64 s, .int .i64 a] 37, box b1 [.slice c.gStates_a c.gStates_n c.gStates_c, .slice c.gInputs_a c.gInputs_n c.gInputs_c, .int .i64 c.gStart, .slice c.gMoves_a c.gMoves_n c.gMoves_c] 25] w17 := S5.trans T7
      clear T7 S5
      refine J.head (.tuple #[.agg #[.int .i64 0, .int .i64 0], .int .i64 0, .int .i64 1]) (by first | (simp only [stepV, fk2, reduceCtorEq, ↓reduceIte]; done) | simp [stepV, fk2]) ?_
      refine J.run 4 K4_29 [(26, .int .i64 1), (25, .int .i64 0), (24, .agg #[.int .i64 0, .int .i64 0]), (5, .pointer (some ⟨b3, 0, none⟩)), (4, .pointer (some ⟨b2, 0, none⟩)), (3, .pointer (some ⟨b1, 0, none⟩))] w17 (by kernel_rfl) ?_
      refine J.new S17 7 [.int .i64 0, .int .i64 0] 37 (by kernel_rfl) ?_
      intro b7 w18 S18
      refine J.stBox S18 0 37 0 (.agg #[.int .i64 0, .int .i64 0]) [.int .i64 0, .int .i64 0] [box b7 [.int .i64 0, .int .i64 0] 37, box b3 [.int .i64 x] 3, box b2 [.int .i64 s, .int .i64 a] 37, box b1 [.slice c.gStates_a c.gStates_n c.gStates_c, .slice c.gInputs_a c.gInputs_n c.gInputs_c, .int .i64 c.gStart, .slice c.gMoves_a c.gMoves_n c.gMoves_c] 25] (by kernel_rfl) rfl (by kernel_rfl) (by kernel_rfl) rfl ?_
      intro w19 S19
      refine J.run 12 K4_30 [(8, .int .i64 0), (7, .pointer (some ⟨b7, 0, none⟩))] w19 (by kernel_rfl) ?_
      refine J.ok (OK.ldBox S19 0 29 37 0 (.agg #[.int .i64 0, .int .i64 0]) (by kernel_rfl) rfl (by kernel_rfl)) ?_
      refine J.run 1 K4_31 [(30, .agg #[.int .i64 0, .int .i64 0]), (29, .agg #[.int .i64 0, .int .i64 0]), (8, .int .i64 0)] w19 (by kernel_rfl) ?_
      refine J.ok (OK.eqS 31 true 37 #[.int .i64 0, .int .i64 0] #[.int .i64 0, .int .i64 0] (((0 : Int) == 0) && (((0 : Int) == 0) && true)) (by kernel_rfl) (by kernel_rfl) (by kernel_rfl) true (by simp)) ?_
      refine J.run 6 K4_32 [(6, .bool true)] w19 (by kernel_rfl) ?_
      refine J.ret Try.f4 [.bool true] Try.func4 ⟨by kernel_rfl, trivial⟩ ?_
      refine hR _ _ ?_
      exact ⟨rfl, S19.nil⟩
  · skip
    refine J.head (.bool true) (congrArg Value.bool (by rw [fk1]; rfl)) ?_
    refine J.run 3 K4_33 [] w5 (by kernel_rfl) ?_
    refine J.callF 18 9 #[] hb9 (by kernel_rfl) (awake_any  _) ?_
    rintro _ w20 ⟨rfl, T8⟩
    have S20 : Sep w [box b3 [.int .i64 x] 3, box b2 [.int .i64 s, .int .i64 a] 37, box b1 [.slice c.gStates_a c.gStates_n c.gStates_c, .slice c.gInputs_a c.gInputs_n c.gInputs_c, .int .i64 c.gStart, .slice c.gMoves_a c.gMoves_n c.gMoves_c] 25] w20 := S5.trans T8
    clear T8 S5
    refine J.run 2 K4_34 [(6, .bool true)] w20 (by kernel_rfl) ?_
    refine J.ret Try.f4 [.bool true] Try.func4 ⟨by kernel_rfl, trivial⟩ ?_
    refine hR _ _ ?_
    exact ⟨rfl, S20.nil⟩

theorem hb6 : HasBody Try.prog 6 := fun _ _ => by kernel_rfl
noncomputable def K6_0 : List Item := adv 2 [] (bodyOf Try.f6)
noncomputable def K6_1 : List Item := adv 5 [] (popK K6_0)
noncomputable def K6_2 : List Item := adv 2 [] (popK K6_1)
noncomputable def K6_3 : List Item := adv 3 [] (popK (popK K6_2))
noncomputable def K6_4 : List Item := adv 5 [] K6_3
noncomputable def K6_5 : List Item := adv 3 [true] K6_4
noncomputable def K6_6 : List Item := adv 2 [] (popK K6_5)
noncomputable def K6_7 : List Item := adv 4 [false] K6_4
noncomputable def K6_8 : List Item := adv 1 [] (popK K6_7)
noncomputable def K6_9 : List Item := adv 12 [] (popK K6_8)
noncomputable def K6_10 : List Item := adv 4 [false] K6_9
noncomputable def K6_11 : List Item := adv 3 [] (popK (popK K6_10))
noncomputable def K6_12 : List Item := adv 15 [] (popK (popK K6_11))
noncomputable def K6_13 : List Item := adv 11 [false] K6_12
noncomputable def K6_14 : List Item := adv 5 [] K6_13
noncomputable def K6_15 : List Item := adv 7 [true] K6_14
noncomputable def K6_16 : List Item := adv 9 [] (popK (popK K6_15))
noncomputable def K6_17 : List Item := adv 1 [] (popK (popK K6_16))
noncomputable def K6_18 : List Item := adv 4 [] (popK K6_17)
noncomputable def K6_19 : List Item := adv 3 [] (popK K6_18)
noncomputable def K6_20 : List Item := adv 5 [false] (rRest K6_19)
noncomputable def K6_21 : List Item := adv 5 [true] (rRest K6_19)
noncomputable def K6_22 : List Item := adv 6 [false] K6_14
noncomputable def K6_23 : List Item := adv 3 [] K6_22
noncomputable def K6_24 : List Item := adv 3 [] (popK K6_23)
noncomputable def K6_25 : List Item := adv 5 [] (rRest K6_24)
noncomputable def K6_26 : List Item := adv 3 [] K6_25
noncomputable def K6_27 : List Item := adv 3 [] (popK (popK K6_26))
noncomputable def K6_28 : List Item := adv 5 [true] K6_12
noncomputable def K6_29 : List Item := adv 8 [true] K6_9
noncomputable def K6_30 : List Item := adv 8 [true] K6_3
noncomputable def K6_31 : List Item := adv 2 [] (popK K6_30)
set_option maxRecDepth 20000 in
set_option maxHeartbeats 20000000 in
theorem lawjoins_any (c : Cht) (la : Option Addr) (len cap : Nat) (l : List Int) (at_ : Int) (w : World) (hc : chtQ w c) (hI : Ints w la len l) (hlen : len ≤ 9223372036854775807) (hcp : len ≤ cap ∧ cap ≤ 9223372036854775807) (hat : 0 ≤ at_ ∧ at_ ≤ 255) : Ret Try.prog 6 #[.agg #[.slice c.gStates_a c.gStates_n c.gStates_c, .slice c.gInputs_a c.gInputs_n c.gInputs_c, .int .i64 c.gStart, .slice c.gMoves_a c.gMoves_n c.gMoves_c], .slice la len cap, .int .u8 at_] w (fun v w' => v = .bool true ∧ Sep w [] w') := by
  have S0 := Sep.refl w
  refine Ret.named fun R hR => ?_
  refine Ret.of_J (N := 105) [(0, .agg #[.slice c.gStates_a c.gStates_n c.gStates_c, .slice c.gInputs_a c.gInputs_n c.gInputs_c, .int .i64 c.gStart, .slice c.gMoves_a c.gMoves_n c.gMoves_c]), (1, .slice la len cap), (2, .int .u8 at_)] Try.func6 rfl rfl (Nat.le_of_ble_eq_true (by kernel_rfl)) (by kernel_rfl) ?_
  obtain ⟨q1, q2, q3, q4, q5, q6, q7, q8, q9, q10, _⟩ := id hc
  have ql1 := q2.len_eq
  have ql2 := q5.len_eq
  have ql3 := q9.len_eq
  have hll := hI.len_eq
  refine J.run 2 K6_0 [(0, .agg #[.slice c.gStates_a c.gStates_n c.gStates_c, .slice c.gInputs_a c.gInputs_n c.gInputs_c, .int .i64 c.gStart, .slice c.gMoves_a c.gMoves_n c.gMoves_c]), (1, .slice la len cap), (2, .int .u8 at_)] w (by kernel_rfl) ?_
  refine J.new S0 3 [.slice c.gStates_a c.gStates_n c.gStates_c, .slice c.gInputs_a c.gInputs_n c.gInputs_c, .int .i64 c.gStart, .slice c.gMoves_a c.gMoves_n c.gMoves_c] 25 (by kernel_rfl) ?_
  intro b1 w1 S1
  refine J.run 5 K6_1 [(3, .pointer (some ⟨b1, 0, none⟩)), (1, .slice la len cap), (2, .int .u8 at_)] w1 (by kernel_rfl) ?_
  refine J.callF 17 9 #[] hb9 (by kernel_rfl) (awake_any  _) ?_
  rintro _ w2 ⟨rfl, T1⟩
  have S2 : Sep w [box b1 [.slice c.gStates_a c.gStates_n c.gStates_c, .slice c.gInputs_a c.gInputs_n c.gInputs_c, .int .i64 c.gStart, .slice c.gMoves_a c.gMoves_n c.gMoves_c] 25] w2 := S1.trans T1
  clear T1 S1
  refine J.run 2 K6_2 [(19, .bool false), (3, .pointer (some ⟨b1, 0, none⟩)), (1, .slice la len cap), (2, .int .u8 at_)] w2 (by kernel_rfl) ?_
  refine J.ok (OK.ldBox S2 0 20 25 0 (.agg #[.slice c.gStates_a c.gStates_n c.gStates_c, .slice c.gInputs_a c.gInputs_n c.gInputs_c, .int .i64 c.gStart, .slice c.gMoves_a c.gMoves_n c.gMoves_c]) (by kernel_rfl) rfl (by kernel_rfl)) ?_
  refine J.callF 21 10 #[.agg #[.slice c.gStates_a c.gStates_n c.gStates_c, .slice c.gInputs_a c.gInputs_n c.gInputs_c, .int .i64 c.gStart, .slice c.gMoves_a c.gMoves_n c.gMoves_c]] hb10 (by kernel_rfl) (small_any c _ (chtQ_sep hc S2)) ?_
  rintro _ w3 ⟨rfl, T2⟩
  have S3 : Sep w [box b1 [.slice c.gStates_a c.gStates_n c.gStates_c, .slice c.gInputs_a c.gInputs_n c.gInputs_c, .int .i64 c.gStart, .slice c.gMoves_a c.gMoves_n c.gMoves_c] 25] w3 := S2.trans T2
  clear T2 S2
  refine J.run 3 K6_3 [(24, .bool (!(smallB c))), (3, .pointer (some ⟨b1, 0, none⟩)), (1, .slice la len cap), (2, .int .u8 at_)] w3 (by kernel_rfl) ?_
  rcases Bool.eq_false_or_eq_true (smallB c) with fk1 | fk1
  · skip
    refine J.head (.bool false) (congrArg Value.bool (by rw [fk1]; rfl)) ?_
    refine J.run 5 K6_4 [(28, .bool (decide ((len : Int) > 200))), (3, .pointer (some ⟨b1, 0, none⟩)), (1, .slice la len cap), (2, .int .u8 at_)] w3 (by kernel_rfl) ?_
    by_cases fk2 : (len : Int) > 200
    · skip
      refine J.head (.bool true) (congrArg Value.bool (decide_eq_true fk2)) ?_
      refine J.run 3 K6_5 [] w3 (by kernel_rfl) ?_
      refine J.callF 29 9 #[] hb9 (by kernel_rfl) (awake_any  _) ?_
      rintro _ w4 ⟨rfl, T3⟩
      have S4 : Sep w [box b1 [.slice c.gStates_a c.gStates_n c.gStates_c, .slice c.gInputs_a c.gInputs_n c.gInputs_c, .int .i64 c.gStart, .slice c.gMoves_a c.gMoves_n c.gMoves_c] 25] w4 := S3.trans T3
      clear T3 S3
      refine J.run 2 K6_6 [(6, .bool true)] w4 (by kernel_rfl) ?_
      refine J.ret Try.f6 [.bool true] Try.func6 ⟨by kernel_rfl, trivial⟩ ?_
      refine hR _ _ ?_
      exact ⟨rfl, S4.nil⟩
    · skip
      refine J.head (.bool false) (congrArg Value.bool (decide_eq_false fk2)) ?_
      refine J.run 4 K6_7 [(3, .pointer (some ⟨b1, 0, none⟩)), (1, .slice la len cap), (2, .int .u8 at_)] w3 (by kernel_rfl) ?_
      refine J.ok (OK.ldBox S3 0 31 25 0 (.agg #[.slice c.gStates_a c.gStates_n c.gStates_c, .slice c.gInputs_a c.gInputs_n c.gInputs_c, .int .i64 c.gStart, .slice c.gMoves_a c.gMoves_n c.gMoves_c]) (by kernel_rfl) rfl (by kernel_rfl)) ?_
      refine J.run 1 K6_8 [(32, .slice la len cap), (31, .agg #[.slice c.gStates_a c.gStates_n c.gStates_c, .slice c.gInputs_a c.gInputs_n c.gInputs_c, .int .i64 c.gStart, .slice c.gMoves_a c.gMoves_n c.gMoves_c]), (3, .pointer (some ⟨b1, 0, none⟩)), (1, .slice la len cap), (2, .int .u8 at_)] w3 (by kernel_rfl) ?_
      refine J.callF 33 11 #[.agg #[.slice c.gStates_a c.gStates_n c.gStates_c, .slice c.gInputs_a c.gInputs_n c.gInputs_c, .int .i64 c.gStart, .slice c.gMoves_a c.gMoves_n c.gMoves_c], .slice la len cap] hb11 (by kernel_rfl) (run_any c la len cap l _ (chtQ_sep hc S3) (hI.sep S3) (by first | omega | (simp; omega))) ?_
      rintro _ w5 ⟨ra1, rc1, rfl, T4⟩
      have S5 : Sep w [rowOf encI ra1 rc1 3 1 (runO c l), box b1 [.slice c.gStates_a c.gStates_n c.gStates_c, .slice c.gInputs_a c.gInputs_n c.gInputs_c, .int .i64 c.gStart, .slice c.gMoves_a c.gMoves_n c.gMoves_c] 25] w5 := S3.trans T4
      clear T4 S3
      have := runE_bounds c l
      refine J.run 12 K6_9 [(37, .bool ((runE c l) != 0)), (7, .slice ra1 ((runO c l).length) rc1), (3, .pointer (some ⟨b1, 0, none⟩)), (1, .slice la len cap), (2, .int .u8 at_)] w5 (by kernel_rfl) ?_
      by_cases fk3 : (runE c l) = 0
      · skip
        refine J.head (.bool false) (congrArg Value.bool (bne_eq_false_iff_eq.2 fk3)) ?_
        obtain ⟨hv, hl2, hin, hro⟩ := run_inv fk3
        have hrl : (runO c l).length = l.length := by rw [hro, outF_length]
        have hr0 := fk3
        have hvf := validC_facts hv
        refine J.run 4 K6_10 [(7, .slice ra1 ((runO c l).length) rc1), (3, .pointer (some ⟨b1, 0, none⟩)), (1, .slice la len cap), (2, .int .u8 at_)] w5 (by kernel_rfl) ?_
        refine J.ok (OK.ldBox S5 1 42 25 0 (.agg #[.slice c.gStates_a c.gStates_n c.gStates_c, .slice c.gInputs_a c.gInputs_n c.gInputs_c, .int .i64 c.gStart, .slice c.gMoves_a c.gMoves_n c.gMoves_c]) (by kernel_rfl) rfl (by kernel_rfl)) ?_
        have fk4 : (validC c) = true := hv
        refine J.callF 43 17 #[.agg #[.slice c.gStates_a c.gStates_n c.gStates_c, .slice c.gInputs_a c.gInputs_n c.gInputs_c, .int .i64 c.gStart, .slice c.gMoves_a c.gMoves_n c.gMoves_c]] hb17 (by kernel_rfl) (start_any c _ (chtQ_sep hc S5)) ?_
        rintro _ w6 ⟨rfl, T5⟩
        have S6 : Sep w [rowOf encI ra1 rc1 3 1 (runO c l), box b1 [.slice c.gStates_a c.gStates_n c.gStates_c, .slice c.gInputs_a c.gInputs_n c.gInputs_c, .int .i64 c.gStart, .slice c.gMoves_a c.gMoves_n c.gMoves_c] 25] w6 := S5.trans T5
        clear T5 S5
        refine J.head (.tuple #[.agg #[.int .i64 c.gStart, .int .i64 0], .int .i64 0]) (by first | (simp only [startV, fk4, reduceCtorEq, ↓reduceIte]; done) | simp [startV, fk4]) ?_
        refine J.run 3 K6_11 [(45, .int .i64 0), (44, .agg #[.int .i64 c.gStart, .int .i64 0]), (7, .slice ra1 ((runO c l).length) rc1), (3, .pointer (some ⟨b1, 0, none⟩)), (1, .slice la len cap), (2, .int .u8 at_)] w6 (by kernel_rfl) ?_
        refine J.new S6 9 [.int .i64 0, .int .i64 0] 37 (by kernel_rfl) ?_
        intro b2 w7 S7
        refine J.stBox S7 0 37 0 (.agg #[.int .i64 c.gStart, .int .i64 0]) [.int .i64 c.gStart, .int .i64 0] [box b2 [.int .i64 c.gStart, .int .i64 0] 37, rowOf encI ra1 rc1 3 1 (runO c l), box b1 [.slice c.gStates_a c.gStates_n c.gStates_c, .slice c.gInputs_a c.gInputs_n c.gInputs_c, .int .i64 c.gStart, .slice c.gMoves_a c.gMoves_n c.gMoves_c] 25] (by kernel_rfl) rfl (by kernel_rfl) (by kernel_rfl) rfl ?_
        intro w8 S8
        refine J.run 15 K6_12 [(54, .bool (((runO c l).length : Int) != (len : Int))), (9, .pointer (some ⟨b2, 0, none⟩)), (7, .slice ra1 ((runO c l).length) rc1), (3, .pointer (some ⟨b1, 0, none⟩)), (1, .slice la len cap), (2, .int .u8 at_)] w8 (by kernel_rfl) ?_
        by_cases fk5 : ((runO c l).length : Int) = (len : Int)
        · skip
          refine J.head (.bool false) (congrArg Value.bool (bne_eq_false_iff_eq.2 fk5)) ?_
          refine J.run 11 K6_13 [(57, .int .i64 0), (56, .int .i64 (len : Int)), (55, .slice la len cap), (9, .pointer (some ⟨b2, 0, none⟩)), (7, .slice ra1 ((runO c l).length) rc1), (3, .pointer (some ⟨b1, 0, none⟩)), (1, .slice la len cap), (2, .int .u8 at_)] w8 (by kernel_rfl) ?_
          have L6_1 : ∀ (m : Nat) (s : Int) (a : Int) (i : Int) (w9 : World), (0 ≤ i) → (i ≤ (len : Int)) → (s = (stF c l (i).toNat).1) → (a = (stF c l (i).toNat).2) → Sep w [box b2 [.int .i64 s, .int .i64 a] 37, rowOf encI ra1 rc1 3 1 (runO c l), box b1 [.slice c.gStates_a c.gStates_n c.gStates_c, .slice c.gInputs_a c.gInputs_n c.gInputs_c, .int .i64 c.gStart, .slice c.gMoves_a c.gMoves_n c.gMoves_c] 25] w9 → ((len : Int) - i).toNat = m → J Try.prog 6 105 R K6_13 [(57, .int .i64 i), (56, .int .i64 (len : Int)), (55, .slice la len cap), (9, .pointer (some ⟨b2, 0, none⟩)), (7, .slice ra1 ((runO c l).length) rc1), (3, .pointer (some ⟨b1, 0, none⟩)), (1, .slice la len cap), (2, .int .u8 at_)] w9 := by
            intro m
            induction m using Nat.strongRecOn with
            | _ m ih1 =>
            intro s a i w9 h0 h1 hs ha S9 hm1
            have hsb := stF_bounds hv l i.toNat; rw [← hs, ← ha] at hsb
            have hget : i < (len : Int) → (runO c l).getD i.toNat 0 = stepS c s a (l.getD i.toNat 0) := fun h => by rw [hro, outF_getD (by omega), (stF_next h0 hs ha).1, show (i + 1).toNat = i.toNat + 1 by omega]
            refine J.run 5 K6_14 [(58, .bool (decide (i < (len : Int)))), (57, .int .i64 i), (56, .int .i64 (len : Int)), (55, .slice la len cap), (9, .pointer (some ⟨b2, 0, none⟩)), (7, .slice ra1 ((runO c l).length) rc1), (3, .pointer (some ⟨b1, 0, none⟩)), (1, .slice la len cap), (2, .int .u8 at_)] w9 (by kernel_rfl) ?_
            by_cases fk6 : i < (len : Int)
            · skip
              refine J.head (.bool true) (congrArg Value.bool (decide_eq_true fk6)) ?_
              refine J.run 7 K6_15 [(59, .int .i64 i), (57, .int .i64 i), (56, .int .i64 (len : Int)), (55, .slice la len cap), (9, .pointer (some ⟨b2, 0, none⟩)), (7, .slice ra1 ((runO c l).length) rc1), (3, .pointer (some ⟨b1, 0, none⟩)), (1, .slice la len cap), (2, .int .u8 at_)] w9 (by kernel_rfl) ?_
              obtain ⟨p1, hp1, hc1⟩ := hI.at 0 (i).toNat (by omega)
              refine J.ok (OK.index 60 26 1 la p1 len (i).toNat i (p1.add (i).toNat) (by kernel_rfl) (by kernel_rfl) hp1 (by omega) (by omega) (by rw [Nat.mul_one])) ?_
              refine J.ok (OK.ldCell 61 3 (p1.add (i).toNat) (.int .i64 (l.getD (i).toNat 0)) (by kernel_rfl) (by kernel_rfl) (S9.cell hc1)) ?_
              refine J.run 9 K6_16 [(12, .int .i64 (l.getD (i).toNat 0)), (11, .int .i64 i), (57, .int .i64 i), (56, .int .i64 (len : Int)), (55, .slice la len cap), (9, .pointer (some ⟨b2, 0, none⟩)), (7, .slice ra1 ((runO c l).length) rc1), (3, .pointer (some ⟨b1, 0, none⟩)), (1, .slice la len cap), (2, .int .u8 at_)] w9 (by kernel_rfl) ?_
              refine J.ok (OK.ldBox S9 2 63 25 0 (.agg #[.slice c.gStates_a c.gStates_n c.gStates_c, .slice c.gInputs_a c.gInputs_n c.gInputs_c, .int .i64 c.gStart, .slice c.gMoves_a c.gMoves_n c.gMoves_c]) (by kernel_rfl) rfl (by kernel_rfl)) ?_
              refine J.ok (OK.ldBox S9 0 64 37 0 (.agg #[.int .i64 s, .int .i64 a]) (by kernel_rfl) rfl (by kernel_rfl)) ?_
              refine J.run 1 K6_17 [(65, .int .i64 (l.getD (i).toNat 0)), (64, .agg #[.int .i64 s, .int .i64 a]), (63, .agg #[.slice c.gStates_a c.gStates_n c.gStates_c, .slice c.gInputs_a c.gInputs_n c.gInputs_c, .int .i64 c.gStart, .slice c.gMoves_a c.gMoves_n c.gMoves_c]), (11, .int .i64 i), (57, .int .i64 i), (56, .int .i64 (len : Int)), (55, .slice la len cap), (9, .pointer (some ⟨b2, 0, none⟩)), (7, .slice ra1 ((runO c l).length) rc1), (3, .pointer (some ⟨b1, 0, none⟩)), (1, .slice la len cap), (2, .int .u8 at_)] w9 (by kernel_rfl) ?_
              have fk7 : (okS c s a) = true := okS_iff.2 (by omega)
              have fk8 : (insideB c (l.getD (i).toNat 0)) = true := hin i.toNat (by omega)
              refine J.callF 66 14 #[.agg #[.slice c.gStates_a c.gStates_n c.gStates_c, .slice c.gInputs_a c.gInputs_n c.gInputs_c, .int .i64 c.gStart, .slice c.gMoves_a c.gMoves_n c.gMoves_c], .agg #[.int .i64 s, .int .i64 a], .int .i64 (l.getD (i).toNat 0)] hb14 (by kernel_rfl) (step3_any c s a (l.getD (i).toNat 0) _ (chtQ_sep hc S9)) ?_
              rintro _ w10 ⟨rfl, T6⟩
              have S10 : Sep w [box b2 [.int .i64 s, .int .i64 a] 37, rowOf encI ra1 rc1 3 1 (runO c l), box b1 [.slice c.gStates_a c.gStates_n c.gStates_c, .slice c.gInputs_a c.gInputs_n c.gInputs_c, .int .i64 c.gStart, .slice c.gMoves_a c.gMoves_n c.gMoves_c] 25] w10 := S9.trans T6
              clear T6 S9
              refine J.head (.tuple #[.agg #[.int .i64 (stepS c s a (l.getD (i).toNat 0)), .int .i64 (stepA c s a (l.getD (i).toNat 0))], .int .i64 (stepI c s a (l.getD (i).toNat 0)), .int .i64 0]) (by first | (simp only [stepV, fk4, fk7, fk8, reduceCtorEq, ↓reduceIte]; done) | simp [stepV, fk4, fk7, fk8]) ?_
              refine J.run 4 K6_18 [(69, .int .i64 0), (67, .agg #[.int .i64 (stepS c s a (l.getD (i).toNat 0)), .int .i64 (stepA c s a (l.getD (i).toNat 0))]), (11, .int .i64 i), (57, .int .i64 i), (56, .int .i64 (len : Int)), (55, .slice la len cap), (9, .pointer (some ⟨b2, 0, none⟩)), (7, .slice ra1 ((runO c l).length) rc1), (3, .pointer (some ⟨b1, 0, none⟩)), (1, .slice la len cap), (2, .int .u8 at_)] w10 (by kernel_rfl) ?_
              refine J.stBox S10 0 37 0 (.agg #[.int .i64 (stepS c s a (l.getD (i).toNat 0)), .int .i64 (stepA c s a (l.getD (i).toNat 0))]) [.int .i64 (stepS c s a (l.getD (i).toNat 0)), .int .i64 (stepA c s a (l.getD (i).toNat 0))] [box b2 [.int .i64 (stepS c s a (l.getD (i).toNat 0)), .int .i64 (stepA c s a (l.getD (i).toNat 0))] 37, rowOf encI ra1 rc1 3 1 (runO c l), box b1 [.slice c.gStates_a c.gStates_n c.gStates_c, .slice c.gInputs_a c.gInputs_n c.gInputs_c, .int .i64 c.gStart, .slice c.gMoves_a c.gMoves_n c.gMoves_c] 25] (by kernel_rfl) rfl (by kernel_rfl) (by kernel_rfl) rfl ?_
              intro w11 S11
              refine J.run 3 K6_19 [(13, .int .i64 0), (11, .int .i64 i), (57, .int .i64 i), (56, .int .i64 (len : Int)), (55, .slice la len cap), (9, .pointer (some ⟨b2, 0, none⟩)), (7, .slice ra1 ((runO c l).length) rc1), (3, .pointer (some ⟨b1, 0, none⟩)), (1, .slice la len cap), (2, .int .u8 at_)] w11 (by kernel_rfl) ?_
              obtain ⟨p2, hp2⟩ := row1_addr (S11.nth 1 rfl) (show 0 < (runO c l).length by first | omega | (simp; omega))
              refine J.drawStill S11 11 Try.mixed (by kernel_rfl) (by kernel_rfl) (by kernel_rfl) ?_
              intro w12 S12
              refine SL.ok (by decide) (OK.run 70 (.int .i64 0) (by kernel_rfl)) ?_
              refine SL.ok (by decide) (OK.run 71 (.bool false) (by kernel_rfl)) ?_
              refine SL.ok (by decide) (OK.run 72 (.bool false) (by kernel_rfl)) ?_
              refine SL.ok (by decide) (OK.run 73 (.pointer (some ⟨b2, 0, none⟩)) (by kernel_rfl)) ?_
              refine SL.ok (by decide) (OK.ldBox S12 0 74 3 0 (.int .i64 (stepS c s a (l.getD (i).toNat 0))) (by kernel_rfl) rfl (by kernel_rfl)) ?_
              refine SL.ok (by decide) (OK.run 75 (.slice ra1 ((runO c l).length) rc1) (by kernel_rfl)) ?_
              refine SL.ok (by decide) (OK.run 76 (.int .i64 i) (by kernel_rfl)) ?_
              refine SL.ok (by decide) (OK.index 77 26 1 ra1 p2 ((runO c l).length) (i).toNat i (p2.add (i).toNat) (by kernel_rfl) (by kernel_rfl) hp2 (by omega) (by first | omega | (simp; omega)) (by rw [Nat.mul_one])) ?_
              refine SL.ok (by decide) (OK.ldCell 78 3 (p2.add (i).toNat) (.int .i64 ((runO c l).getD (i).toNat 0)) (by kernel_rfl) (by kernel_rfl) (row1_cell (g := (Value.int .i64)) S12 1 rfl hp2 0 (i).toNat (by first | omega | (simp; omega)))) ?_
              refine SL.ok (by decide) (OK.run 79 (.bool ((stepS c s a (l.getD (i).toNat 0)) != ((runO c l).getD (i).toNat 0))) (by kernel_rfl)) ?_
              refine SL.ok (by decide) (OK.run 80 (.bool ((stepS c s a (l.getD (i).toNat 0)) != ((runO c l).getD (i).toNat 0))) (by kernel_rfl)) ?_
              refine SL.done ?_
              refine TL.done (by kernel_rfl) ?_
              refine J.run 0 (rRest K6_19) [(80, .bool ((stepS c s a (l.getD (i).toNat 0)) != ((runO c l).getD (i).toNat 0))), (57, .int .i64 i), (56, .int .i64 (len : Int)), (55, .slice la len cap), (9, .pointer (some ⟨b2, 0, none⟩)), (7, .slice ra1 ((runO c l).length) rc1), (3, .pointer (some ⟨b1, 0, none⟩)), (1, .slice la len cap), (2, .int .u8 at_)] w12 (by kernel_rfl) ?_
              by_cases fk9 : (stepS c s a (l.getD (i).toNat 0)) = ((runO c l).getD (i).toNat 0)
              · skip
                refine J.head (.bool false) (congrArg Value.bool (bne_eq_false_iff_eq.2 fk9)) ?_
                refine J.run 5 K6_20 [(81, .int .i64 (IntKind.wrap .i64 (i + 1))), (56, .int .i64 (len : Int)), (55, .slice la len cap), (9, .pointer (some ⟨b2, 0, none⟩)), (7, .slice ra1 ((runO c l).length) rc1), (3, .pointer (some ⟨b1, 0, none⟩)), (1, .slice la len cap), (2, .int .u8 at_)] w12 (by kernel_rfl) ?_
                refine J.head (.int .i64 (i + 1)) (congrArg (Value.int .i64) (IntWalk.i64_in _ (by omega))) ?_
                refine J.run 3 K6_13 [(57, .int .i64 (i + 1)), (56, .int .i64 (len : Int)), (55, .slice la len cap), (9, .pointer (some ⟨b2, 0, none⟩)), (7, .slice ra1 ((runO c l).length) rc1), (3, .pointer (some ⟨b1, 0, none⟩)), (1, .slice la len cap), (2, .int .u8 at_)] w12 (by kernel_rfl) ?_
                refine J.run 0 K6_13 [(57, .int .i64 (i + 1)), (56, .int .i64 (len : Int)), (55, .slice la len cap), (9, .pointer (some ⟨b2, 0, none⟩)), (7, .slice ra1 ((runO c l).length) rc1), (3, .pointer (some ⟨b1, 0, none⟩)), (1, .slice la len cap), (2, .int .u8 at_)] w12 (by kernel_rfl) ?_
                exact ih1 _ (show ((len : Int) - (i + 1)).toNat < m from by omega) (stepS c s a (l.getD (i).toNat 0)) (stepA c s a (l.getD (i).toNat 0)) (i + 1) w12 (by omega) (by omega) ((stF_next h0 hs ha).1) ((stF_next h0 hs ha).2) S12 rfl
              · skip
                refine J.head (.bool true) (congrArg Value.bool (bne_iff_ne.2 fk9)) ?_
                refine J.run 5 K6_21 [(6, .bool false)] w12 (by kernel_rfl) ?_
                refine J.ret Try.f6 [.bool false] Try.func6 ⟨by kernel_rfl, trivial⟩ ?_
                refine hR _ _ ?_
                exfalso
                omega
            · skip
              refine J.head (.bool false) (congrArg Value.bool (decide_eq_false fk6)) ?_
              refine J.run 6 K6_22 [(83, .int .i64 (IntKind.wrap .i64 at_)), (7, .slice ra1 ((runO c l).length) rc1), (3, .pointer (some ⟨b1, 0, none⟩)), (1, .slice la len cap)] w9 (by kernel_rfl) ?_
              refine J.head (.int .i64 at_) (congrArg (Value.int .i64) (IntWalk.i64_in _ (by omega))) ?_
              refine J.run 3 K6_23 [(86, .int .i64 (IntKind.wrap .i64 ((len : Int) + 1))), (83, .int .i64 at_), (7, .slice ra1 ((runO c l).length) rc1), (3, .pointer (some ⟨b1, 0, none⟩)), (1, .slice la len cap)] w9 (by kernel_rfl) ?_
              refine J.head (.int .i64 ((len : Int) + 1)) (congrArg (Value.int .i64) (IntWalk.i64_in _ (by omega))) ?_
              refine J.ok (OK.rem 87 .i64 at_ ((len : Int) + 1) (by kernel_rfl) (by omega)) ?_
              have hm1 := Int.emod_nonneg at_ (show (len : Int) + 1 ≠ 0 by omega)
              have hm2 := Int.emod_lt_of_pos at_ (show 0 < (len : Int) + 1 by omega)
              refine J.head (.int .i64 (at_ % ((len : Int) + 1))) (congrArg (Value.int .i64) (IntWalk.rem_in _ _ (by omega))) ?_
              refine J.run 3 K6_24 [(14, .int .i64 (at_ % ((len : Int) + 1))), (7, .slice ra1 ((runO c l).length) rc1), (3, .pointer (some ⟨b1, 0, none⟩)), (1, .slice la len cap)] w9 (by kernel_rfl) ?_
              have W1 : ∀ (ad4 : Option Addr) (cd4 : Nat) (w13 : World), Sep w [rowOf encI ad4 cd4 3 1 (runO c (l.take ((at_ % ((len : Int) + 1)).toNat))), box b2 [.int .i64 s, .int .i64 a] 37, rowOf encI ra1 rc1 3 1 (runO c l), box b1 [.slice c.gStates_a c.gStates_n c.gStates_c, .slice c.gInputs_a c.gInputs_n c.gInputs_c, .int .i64 c.gStart, .slice c.gMoves_a c.gMoves_n c.gMoves_c] 25] w13 → WA Try.prog 6 105 R K6_24 0 #[true, true, true, true, true, true, true, true, true, true] [(1, .slice la len cap), (3, .pointer (some ⟨b1, 0, none⟩)), (7, .slice ra1 ((runO c l).length) rc1), (14, .int .i64 (at_ % ((len : Int) + 1))), (15, .slice ad4 ((runO c (l.take ((at_ % ((len : Int) + 1)).toNat))).length) cd4), (16, .int .i64 (runE c (l.take ((at_ % ((len : Int) + 1)).toNat)))), (88, .tuple #[.slice ad4 ((runO c (l.take ((at_ % ((len : Int) + 1)).toNat))).length) cd4, .int .i64 (runE c (l.take ((at_ % ((len : Int) + 1)).toNat)))]), (89, .agg #[.slice c.gStates_a c.gStates_n c.gStates_c, .slice c.gInputs_a c.gInputs_n c.gInputs_c, .int .i64 c.gStart, .slice c.gMoves_a c.gMoves_n c.gMoves_c]), (90, .slice la len cap), (91, .int .i64 (at_ % ((len : Int) + 1))), (92, .slice la ((at_ % ((len : Int) + 1)).toNat) cap), (93, .tuple #[.slice ad4 ((runO c (l.take ((at_ % ((len : Int) + 1)).toNat))).length) cd4, .int .i64 (runE c (l.take ((at_ % ((len : Int) + 1)).toNat)))]), (94, .slice ad4 ((runO c (l.take ((at_ % ((len : Int) + 1)).toNat))).length) cd4), (95, .int .i64 (runE c (l.take ((at_ % ((len : Int) + 1)).toNat))))] w13 := by
                intro ad4 cd4 w13 S13
                refine WA.done (by kernel_rfl) ?_
                refine J.run 0 (rRest K6_24) [(7, .slice ra1 ((runO c l).length) rc1), (14, .int .i64 (at_ % ((len : Int) + 1))), (15, .slice ad4 ((runO c (l.take ((at_ % ((len : Int) + 1)).toNat))).length) cd4), (16, .int .i64 (runE c (l.take ((at_ % ((len : Int) + 1)).toNat))))] w13 (by kernel_rfl) ?_
                refine J.run 5 K6_25 [(98, .bool ((runE c (l.take ((at_ % ((len : Int) + 1)).toNat))) == 0)), (7, .slice ra1 ((runO c l).length) rc1), (14, .int .i64 (at_ % ((len : Int) + 1))), (15, .slice ad4 ((runO c (l.take ((at_ % ((len : Int) + 1)).toNat))).length) cd4)] w13 (by kernel_rfl) ?_
                have fk11 : (runE c (l.take ((at_ % ((len : Int) + 1)).toNat))) = 0 := (run_take hr0 (by omega)).1
                refine J.head (.bool true) (congrArg Value.bool (beq_iff_eq.2 fk11)) ?_
                refine J.run 3 K6_26 [(101, .int .i64 (at_ % ((len : Int) + 1))), (100, .slice ra1 ((runO c l).length) rc1), (99, .slice ad4 ((runO c (l.take ((at_ % ((len : Int) + 1)).toNat))).length) cd4), (98, .bool true)] w13 (by kernel_rfl) ?_
                have := (rowOf_cells (S13.nth 2 rfl)).2.2
                refine J.ok (OK.slice 102 26 1 ra1 ((runO c l).length) rc1 none (some (.int .i64 (at_ % ((len : Int) + 1)))) 0 ((at_ % ((len : Int) + 1)).toNat) (by kernel_rfl) (by kernel_rfl) (.inl ⟨rfl, rfl⟩) (.inr ⟨_, _, rfl, by omega⟩) (by first | omega | (simp; omega)) (by first | omega | (simp; omega))) ?_
                refine J.head (.slice ra1 ((at_ % ((len : Int) + 1)).toNat) rc1) (by rw [subA_zero]; rfl) ?_
                have := rowOf_len (S13.nth 0 rfl)
                refine J.callF 103 13 #[.slice ad4 ((runO c (l.take ((at_ % ((len : Int) + 1)).toNat))).length) cd4, .slice ra1 ((at_ % ((len : Int) + 1)).toNat) rc1] hb13 (by kernel_rfl) (equal_any ad4 ((runO c (l.take ((at_ % ((len : Int) + 1)).toNat))).length) cd4 (runO c (l.take ((at_ % ((len : Int) + 1)).toNat))) ra1 ((at_ % ((len : Int) + 1)).toNat) rc1 ((runO c l).take ((at_ % ((len : Int) + 1)).toNat)) _ ((row1_ones (S13.nth 0 rfl) ((runO c (l.take ((at_ % ((len : Int) + 1)).toNat))).length) (by first | rfl | omega | simp))) (((row1_ones (S13.nth 2 rfl) _ rfl).take ((at_ % ((len : Int) + 1)).toNat) (by first | omega | (simp; omega)))) (by first | omega | (simp; omega))) ?_
                rintro _ w14 ⟨rfl, T7⟩
                have S14 : Sep w [rowOf encI ad4 cd4 3 1 (runO c (l.take ((at_ % ((len : Int) + 1)).toNat))), box b2 [.int .i64 s, .int .i64 a] 37, rowOf encI ra1 rc1 3 1 (runO c l), box b1 [.slice c.gStates_a c.gStates_n c.gStates_c, .slice c.gInputs_a c.gInputs_n c.gInputs_c, .int .i64 c.gStart, .slice c.gMoves_a c.gMoves_n c.gMoves_c] 25] w14 := S13.trans T7
                clear T7 S13
                refine J.run 3 K6_27 [(6, .bool ((runO c (l.take ((at_ % ((len : Int) + 1)).toNat))) == ((runO c l).take ((at_ % ((len : Int) + 1)).toNat))))] w14 (by kernel_rfl) ?_
                refine J.ret Try.f6 [.bool ((runO c (l.take ((at_ % ((len : Int) + 1)).toNat))) == ((runO c l).take ((at_ % ((len : Int) + 1)).toNat)))] Try.func6 ⟨by kernel_rfl, trivial⟩ ?_
                refine hR _ _ ?_
                have fk12 : ((runO c (l.take ((at_ % ((len : Int) + 1)).toNat))) == ((runO c l).take ((at_ % ((len : Int) + 1)).toNat))) = true := by rw [(run_take hr0 (by omega)).2]; exact beq_self_eq_true _
                exact ⟨congrArg Value.bool fk12, S14.nil⟩
              have W2 : ∀ (w15 : World), Sep w [box b2 [.int .i64 s, .int .i64 a] 37, rowOf encI ra1 rc1 3 1 (runO c l), box b1 [.slice c.gStates_a c.gStates_n c.gStates_c, .slice c.gInputs_a c.gInputs_n c.gInputs_c, .int .i64 c.gStart, .slice c.gMoves_a c.gMoves_n c.gMoves_c] 25] w15 → WA Try.prog 6 105 R K6_24 6 #[true, true, true, true, false, false, false, false, false, false] [(1, .slice la len cap), (3, .pointer (some ⟨b1, 0, none⟩)), (7, .slice ra1 ((runO c l).length) rc1), (14, .int .i64 (at_ % ((len : Int) + 1))), (89, .agg #[.slice c.gStates_a c.gStates_n c.gStates_c, .slice c.gInputs_a c.gInputs_n c.gInputs_c, .int .i64 c.gStart, .slice c.gMoves_a c.gMoves_n c.gMoves_c]), (90, .slice la len cap), (91, .int .i64 (at_ % ((len : Int) + 1))), (92, .slice la ((at_ % ((len : Int) + 1)).toNat) cap)] w15 := by
                intro w15 S15
                refine WA.all [4] (by kernel_rfl) rfl ⟨?_, trivial⟩
                · skip
                  refine WO.set #[true, true, true, true, true, false, false, false, false, false] (by kernel_rfl) ?_
                  refine WO.callF 93 11 #[.agg #[.slice c.gStates_a c.gStates_n c.gStates_c, .slice c.gInputs_a c.gInputs_n c.gInputs_c, .int .i64 c.gStart, .slice c.gMoves_a c.gMoves_n c.gMoves_c], .slice la ((at_ % ((len : Int) + 1)).toNat) cap] hb11 (by kernel_rfl) (run_any c la ((at_ % ((len : Int) + 1)).toNat) cap (l.take ((at_ % ((len : Int) + 1)).toNat)) _ (chtQ_sep hc S15) ((hI.sep S15).take ((at_ % ((len : Int) + 1)).toNat) (by first | omega | (simp; omega))) (by first | omega | (simp; omega))) ?_
                  rintro _ w16 ⟨ad4, cd4, rfl, T8⟩
                  have S16 : Sep w [rowOf encI ad4 cd4 3 1 (runO c (l.take ((at_ % ((len : Int) + 1)).toNat))), box b2 [.int .i64 s, .int .i64 a] 37, rowOf encI ra1 rc1 3 1 (runO c l), box b1 [.slice c.gStates_a c.gStates_n c.gStates_c, .slice c.gInputs_a c.gInputs_n c.gInputs_c, .int .i64 c.gStart, .slice c.gMoves_a c.gMoves_n c.gMoves_c] 25] w16 := S15.trans T8
                  clear T8 S15
                  have := runE_bounds c (l.take ((at_ % ((len : Int) + 1)).toNat))
                  refine WA.take 5 88 (.tuple #[.slice ad4 ((runO c (l.take ((at_ % ((len : Int) + 1)).toNat))).length) cd4, .int .i64 (runE c (l.take ((at_ % ((len : Int) + 1)).toNat)))]) #[true, true, true, true, true, true, false, false, false, false] (by kernel_rfl) (by kernel_rfl) (by kernel_rfl) (fun _ => by kernel_rfl) (by kernel_rfl) ?_
                  refine WA.take 6 94 (.slice ad4 ((runO c (l.take ((at_ % ((len : Int) + 1)).toNat))).length) cd4) #[true, true, true, true, true, true, true, false, false, false] (by kernel_rfl) (by kernel_rfl) (by kernel_rfl) (fun _ => by kernel_rfl) (by kernel_rfl) ?_
                  refine WA.take 7 95 (.int .i64 (runE c (l.take ((at_ % ((len : Int) + 1)).toNat)))) #[true, true, true, true, true, true, true, true, false, false] (by kernel_rfl) (by kernel_rfl) (by kernel_rfl) (fun _ => by kernel_rfl) (by kernel_rfl) ?_
                  refine WA.take 8 15 (.slice ad4 ((runO c (l.take ((at_ % ((len : Int) + 1)).toNat))).length) cd4) #[true, true, true, true, true, true, true, true, true, false] (by kernel_rfl) (by kernel_rfl) (by kernel_rfl) (fun _ => by kernel_rfl) (by kernel_rfl) ?_
                  refine WA.take 9 16 (.int .i64 (runE c (l.take ((at_ % ((len : Int) + 1)).toNat)))) #[true, true, true, true, true, true, true, true, true, true] (by kernel_rfl) (by kernel_rfl) (by kernel_rfl) (fun _ => by kernel_rfl) (by kernel_rfl) ?_
                  refine WA.weaken (env' := [(1, .slice la len cap), (3, .pointer (some ⟨b1, 0, none⟩)), (7, .slice ra1 ((runO c l).length) rc1), (14, .int .i64 (at_ % ((len : Int) + 1))), (15, .slice ad4 ((runO c (l.take ((at_ % ((len : Int) + 1)).toNat))).length) cd4), (16, .int .i64 (runE c (l.take ((at_ % ((len : Int) + 1)).toNat)))), (88, .tuple #[.slice ad4 ((runO c (l.take ((at_ % ((len : Int) + 1)).toNat))).length) cd4, .int .i64 (runE c (l.take ((at_ % ((len : Int) + 1)).toNat)))]), (89, .agg #[.slice c.gStates_a c.gStates_n c.gStates_c, .slice c.gInputs_a c.gInputs_n c.gInputs_c, .int .i64 c.gStart, .slice c.gMoves_a c.gMoves_n c.gMoves_c]), (90, .slice la len cap), (91, .int .i64 (at_ % ((len : Int) + 1))), (92, .slice la ((at_ % ((len : Int) + 1)).toNat) cap), (93, .tuple #[.slice ad4 ((runO c (l.take ((at_ % ((len : Int) + 1)).toNat))).length) cd4, .int .i64 (runE c (l.take ((at_ % ((len : Int) + 1)).toNat)))]), (94, .slice ad4 ((runO c (l.take ((at_ % ((len : Int) + 1)).toNat))).length) cd4), (95, .int .i64 (runE c (l.take ((at_ % ((len : Int) + 1)).toNat))))]) (by kernel_rfl) ?_
                  exact W1 ad4 cd4 w16 S16
              have W3 : ∀ (w17 : World), Sep w [box b2 [.int .i64 s, .int .i64 a] 37, rowOf encI ra1 rc1 3 1 (runO c l), box b1 [.slice c.gStates_a c.gStates_n c.gStates_c, .slice c.gInputs_a c.gInputs_n c.gInputs_c, .int .i64 c.gStart, .slice c.gMoves_a c.gMoves_n c.gMoves_c] 25] w17 → WA Try.prog 6 105 R K6_24 7 #[true, true, true, false, false, false, false, false, false, false] [(1, .slice la len cap), (3, .pointer (some ⟨b1, 0, none⟩)), (7, .slice ra1 ((runO c l).length) rc1), (14, .int .i64 (at_ % ((len : Int) + 1))), (89, .agg #[.slice c.gStates_a c.gStates_n c.gStates_c, .slice c.gInputs_a c.gInputs_n c.gInputs_c, .int .i64 c.gStart, .slice c.gMoves_a c.gMoves_n c.gMoves_c]), (90, .slice la len cap), (91, .int .i64 (at_ % ((len : Int) + 1)))] w17 := by
                intro w17 S17
                refine WA.all [3] (by kernel_rfl) rfl ⟨?_, trivial⟩
                · skip
                  refine WO.set #[true, true, true, true, false, false, false, false, false, false] (by kernel_rfl) ?_
                  refine WO.ok (OK.slice 92 26 1 la len cap none (some (.int .i64 (at_ % ((len : Int) + 1)))) 0 ((at_ % ((len : Int) + 1)).toNat) (by kernel_rfl) (by kernel_rfl) (.inl ⟨rfl, rfl⟩) (.inr ⟨_, _, rfl, by omega⟩) (by first | omega | (simp; omega)) (by first | omega | (simp; omega))) ?_
                  refine WA.head (.slice la ((at_ % ((len : Int) + 1)).toNat) cap) (by rw [subA_zero]; rfl) ?_
                  refine WA.weaken (env' := [(1, .slice la len cap), (3, .pointer (some ⟨b1, 0, none⟩)), (7, .slice ra1 ((runO c l).length) rc1), (14, .int .i64 (at_ % ((len : Int) + 1))), (89, .agg #[.slice c.gStates_a c.gStates_n c.gStates_c, .slice c.gInputs_a c.gInputs_n c.gInputs_c, .int .i64 c.gStart, .slice c.gMoves_a c.gMoves_n c.gMoves_c]), (90, .slice la len cap), (91, .int .i64 (at_ % ((len : Int) + 1))), (92, .slice la ((at_ % ((len : Int) + 1)).toNat) cap)]) (by kernel_rfl) ?_
                  exact W2 w17 S17
              have W4 : ∀ (w18 : World), Sep w [box b2 [.int .i64 s, .int .i64 a] 37, rowOf encI ra1 rc1 3 1 (runO c l), box b1 [.slice c.gStates_a c.gStates_n c.gStates_c, .slice c.gInputs_a c.gInputs_n c.gInputs_c, .int .i64 c.gStart, .slice c.gMoves_a c.gMoves_n c.gMoves_c] 25] w18 → WA Try.prog 6 105 R K6_24 7 #[false, true, true, true, false, false, false, false, false, false] [(1, .slice la len cap), (3, .pointer (some ⟨b1, 0, none⟩)), (7, .slice ra1 ((runO c l).length) rc1), (14, .int .i64 (at_ % ((len : Int) + 1))), (90, .slice la len cap), (91, .int .i64 (at_ % ((len : Int) + 1))), (92, .slice la ((at_ % ((len : Int) + 1)).toNat) cap)] w18 := by
                intro w18 S18
                refine WA.all [0] (by kernel_rfl) rfl ⟨?_, trivial⟩
                · skip
                  refine WO.set #[true, true, true, true, false, false, false, false, false, false] (by kernel_rfl) ?_
                  refine WO.ok (OK.ldBox S18 2 89 25 0 (.agg #[.slice c.gStates_a c.gStates_n c.gStates_c, .slice c.gInputs_a c.gInputs_n c.gInputs_c, .int .i64 c.gStart, .slice c.gMoves_a c.gMoves_n c.gMoves_c]) (by kernel_rfl) rfl (by kernel_rfl)) ?_
                  refine WA.weaken (env' := [(1, .slice la len cap), (3, .pointer (some ⟨b1, 0, none⟩)), (7, .slice ra1 ((runO c l).length) rc1), (14, .int .i64 (at_ % ((len : Int) + 1))), (89, .agg #[.slice c.gStates_a c.gStates_n c.gStates_c, .slice c.gInputs_a c.gInputs_n c.gInputs_c, .int .i64 c.gStart, .slice c.gMoves_a c.gMoves_n c.gMoves_c]), (90, .slice la len cap), (91, .int .i64 (at_ % ((len : Int) + 1))), (92, .slice la ((at_ % ((len : Int) + 1)).toNat) cap)]) (by kernel_rfl) ?_
                  exact W2 w18 S18
              have W5 : ∀ (w19 : World), Sep w [box b2 [.int .i64 s, .int .i64 a] 37, rowOf encI ra1 rc1 3 1 (runO c l), box b1 [.slice c.gStates_a c.gStates_n c.gStates_c, .slice c.gInputs_a c.gInputs_n c.gInputs_c, .int .i64 c.gStart, .slice c.gMoves_a c.gMoves_n c.gMoves_c] 25] w19 → WA Try.prog 6 105 R K6_24 8 #[false, true, true, false, false, false, false, false, false, false] [(1, .slice la len cap), (3, .pointer (some ⟨b1, 0, none⟩)), (7, .slice ra1 ((runO c l).length) rc1), (14, .int .i64 (at_ % ((len : Int) + 1))), (90, .slice la len cap), (91, .int .i64 (at_ % ((len : Int) + 1)))] w19 := by
                intro w19 S19
                refine WA.all [0, 3] (by kernel_rfl) rfl ⟨?_, ?_, trivial⟩
                · skip
                  refine WO.set #[true, true, true, false, false, false, false, false, false, false] (by kernel_rfl) ?_
                  refine WO.ok (OK.ldBox S19 2 89 25 0 (.agg #[.slice c.gStates_a c.gStates_n c.gStates_c, .slice c.gInputs_a c.gInputs_n c.gInputs_c, .int .i64 c.gStart, .slice c.gMoves_a c.gMoves_n c.gMoves_c]) (by kernel_rfl) rfl (by kernel_rfl)) ?_
                  refine WA.weaken (env' := [(1, .slice la len cap), (3, .pointer (some ⟨b1, 0, none⟩)), (7, .slice ra1 ((runO c l).length) rc1), (14, .int .i64 (at_ % ((len : Int) + 1))), (89, .agg #[.slice c.gStates_a c.gStates_n c.gStates_c, .slice c.gInputs_a c.gInputs_n c.gInputs_c, .int .i64 c.gStart, .slice c.gMoves_a c.gMoves_n c.gMoves_c]), (90, .slice la len cap), (91, .int .i64 (at_ % ((len : Int) + 1)))]) (by kernel_rfl) ?_
                  exact W3 w19 S19
                · skip
                  refine WO.set #[false, true, true, true, false, false, false, false, false, false] (by kernel_rfl) ?_
                  refine WO.ok (OK.slice 92 26 1 la len cap none (some (.int .i64 (at_ % ((len : Int) + 1)))) 0 ((at_ % ((len : Int) + 1)).toNat) (by kernel_rfl) (by kernel_rfl) (.inl ⟨rfl, rfl⟩) (.inr ⟨_, _, rfl, by omega⟩) (by first | omega | (simp; omega)) (by first | omega | (simp; omega))) ?_
                  refine WA.head (.slice la ((at_ % ((len : Int) + 1)).toNat) cap) (by rw [subA_zero]; rfl) ?_
                  refine WA.weaken (env' := [(1, .slice la len cap), (3, .pointer (some ⟨b1, 0, none⟩)), (7, .slice ra1 ((runO c l).length) rc1), (14, .int .i64 (at_ % ((len : Int) + 1))), (90, .slice la len cap), (91, .int .i64 (at_ % ((len : Int) + 1))), (92, .slice la ((at_ % ((len : Int) + 1)).toNat) cap)]) (by kernel_rfl) ?_
                  exact W4 w19 S19
              refine J.drawAny S9 10 #[false, false, false, false, false, false, false, false, false, false] Try.mixed (by kernel_rfl) (by kernel_rfl) (by kernel_rfl) ?_
              intro w20 S20
              refine WA.take 1 90 (.slice la len cap) #[false, true, false, false, false, false, false, false, false, false] (by kernel_rfl) (by kernel_rfl) (by kernel_rfl) (fun _ => by kernel_rfl) (by kernel_rfl) ?_
              refine WA.take 2 91 (.int .i64 (at_ % ((len : Int) + 1))) #[false, true, true, false, false, false, false, false, false, false] (by kernel_rfl) (by kernel_rfl) (by kernel_rfl) (fun _ => by kernel_rfl) (by kernel_rfl) ?_
              refine WA.weaken (env' := [(1, .slice la len cap), (3, .pointer (some ⟨b1, 0, none⟩)), (7, .slice ra1 ((runO c l).length) rc1), (14, .int .i64 (at_ % ((len : Int) + 1))), (90, .slice la len cap), (91, .int .i64 (at_ % ((len : Int) + 1)))]) (by kernel_rfl) ?_
              exact W5 w20 S20
          exact L6_1 _ c.gStart 0 0 w8 (by omega) (by omega) (rfl) (rfl) S8 rfl
        · skip
          refine J.head (.bool true) (congrArg Value.bool (bne_iff_ne.2 fk5)) ?_
          refine J.run 5 K6_28 [(6, .bool false)] w8 (by kernel_rfl) ?_
          refine J.ret Try.f6 [.bool false] Try.func6 ⟨by kernel_rfl, trivial⟩ ?_
          refine hR _ _ ?_
          exfalso
          omega
      · skip
        refine J.head (.bool true) (congrArg Value.bool (bne_iff_ne.2 fk3)) ?_
        have hrl : (runO c l).length = 0 := by rw [run_err rfl fk3]; rfl
        refine J.run 8 K6_29 [(6, .bool (((runO c l).length : Int) == 0))] w5 (by kernel_rfl) ?_
        refine J.ret Try.f6 [.bool (((runO c l).length : Int) == 0)] Try.func6 ⟨by kernel_rfl, trivial⟩ ?_
        refine hR _ _ ?_
        exact ⟨congrArg Value.bool ((beq_iff_eq.2 (by omega))), S5.nil⟩
  · skip
    refine J.head (.bool true) (congrArg Value.bool (by rw [fk1]; rfl)) ?_
    refine J.run 8 K6_30 [] w3 (by kernel_rfl) ?_
    refine J.callF 29 9 #[] hb9 (by kernel_rfl) (awake_any  _) ?_
    rintro _ w21 ⟨rfl, T9⟩
    have S21 : Sep w [box b1 [.slice c.gStates_a c.gStates_n c.gStates_c, .slice c.gInputs_a c.gInputs_n c.gInputs_c, .int .i64 c.gStart, .slice c.gMoves_a c.gMoves_n c.gMoves_c] 25] w21 := S3.trans T9
    clear T9 S3
    refine J.run 2 K6_31 [(6, .bool true)] w21 (by kernel_rfl) ?_
    refine J.ret Try.f6 [.bool true] Try.func6 ⟨by kernel_rfl, trivial⟩ ?_
    refine hR _ _ ?_
    exact ⟨rfl, S21.nil⟩

end Go.Proofs.Ytbbpgidmadlgmaa
