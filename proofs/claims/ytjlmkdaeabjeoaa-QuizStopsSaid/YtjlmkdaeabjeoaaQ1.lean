/- Walks of functions of this seat, printed by a program over the engine. Conditions: as each theorem says. -/
import Derived.Test.YtjlmkdaeabjeoaaProg
import Derived.Test.YtjlmkdaeabjeoaaEng7
namespace Go.Proofs.Ytjlmkdaeabjeoaa
open Go.Eng Go.RowKit
set_option linter.unusedSimpArgs false
set_option linter.unusedVariables false
theorem Try.mixed : Try.prog.follows .mixedOrders = true := by kernel_rfl
def wordB (n : Int) : Bool := decide (0 ≤ n) && decide (n ≤ 65535)
def questionB (n : Int) : Bool := decide (1 ≤ n) && decide (n ≤ 65535)
def instantB (n : Int) : Bool := decide (0 ≤ n) && decide (n ≤ 1099511627776)
def validB (q a e : Int) (o f : Bool) : Bool := questionB q && instantB a && (o || a == 0) && decide (0 ≤ e) && decide (e ≤ 7) && (f == (e == 7)) && !(o && f)
theorem questionB_iff {n : Int} : questionB n = true ↔ 1 ≤ n ∧ n ≤ 65535 := by simp [questionB]
theorem wordB_iff {n : Int} : wordB n = true ↔ 0 ≤ n ∧ n ≤ 65535 := by simp [wordB]
theorem instantB_iff {n : Int} : instantB n = true ↔ 0 ≤ n ∧ n ≤ 1099511627776 := by simp [instantB]
theorem validB_bounds {q a e : Int} {o f : Bool} (h : validB q a e o f = true) : (1 ≤ q ∧ q ≤ 65535) ∧ (0 ≤ a ∧ a ≤ 1099511627776) ∧ (0 ≤ e ∧ e ≤ 7) := by
  simp [validB, questionB, instantB] at h; omega
/-- the place of the first element that is wanted, or -1 -/
def indexF (q : Int → Bool) (l : List Int) : Int := match l.findIdx? q with | some i => i | none => -1
theorem indexF_some {q : Int → Bool} {l : List Int} (i : Nat) (hi : i < l.length) (h1 : ∀ j, j < i → q (l.getD j 0) = false) (h2 : q (l.getD i 0) = true) : indexF q l = i := by
  unfold indexF
  have : l.findIdx? q = some i := by
    rw [List.findIdx?_eq_some_iff_getElem]
    refine ⟨hi, by simpa [List.getD, hi] using h2, fun j hj => ?_⟩
    have := h1 j hj
    simp [List.getD, show j < l.length by omega] at this
    simp [this]
  rw [this]
theorem indexF_none {q : Int → Bool} {l : List Int} (h1 : ∀ j, j < l.length → q (l.getD j 0) = false) : indexF q l = -1 := by
  unfold indexF
  have : l.findIdx? q = none := by
    rw [List.findIdx?_eq_none_iff]
    intro x hx
    obtain ⟨j, hj, rfl⟩ := List.mem_iff_getElem.1 hx
    have := h1 j hj
    simpa [List.getD, hj] using this
  rw [this]
theorem indexF_nonneg {q : Int → Bool} {l : List Int} : decide (indexF q l ≥ 0) = l.any q := by
  unfold indexF
  cases h : l.findIdx? q with
  | none =>
    rw [List.findIdx?_eq_none_iff] at h
    have : l.any q = false := by rw [List.any_eq_false]; intro x hx; simp [h x hx]
    rw [this]; decide
  | some i =>
    rw [List.findIdx?_eq_some_iff_getElem] at h
    obtain ⟨hi, h2, _⟩ := h
    have : l.any q = true := List.any_eq_true.2 ⟨_, List.getElem_mem hi, h2⟩
    rw [this]; simp
/-- the parts are words, and as many as may be -/
def partsB (l : List Int) : Bool := decide (1 ≤ l.length) && decide (l.length ≤ 16) && l.all wordB
def ansF (q : Int) (l : List Int) : Int := l.foldl (fun a p => (5 * a + p + 1) % 65536) q
/-- the bits of n, exclusive or 46080 -/
def xorF (n : Int) : Int := IntKind.wrap .i64 ((BitVec.ofInt 64 n ^^^ BitVec.ofInt 64 (46080 : Int)).toNat : Int)
def nextF (n : Int) : Int := if n % 2 = 1 then xorF (n / 2) else n / 2
theorem take_snoc (l : List Int) (k : Nat) (h : k < l.length) : l.take (k + 1) = l.take k ++ [l.getD k 0] := by
  rw [List.take_succ_eq_append_getElem h]; simp [List.getD, h]
theorem ansF_snoc (q : Int) (l : List Int) (k : Nat) (h : k < l.length) : ansF q (l.take (k + 1)) = (5 * ansF q (l.take k) + l.getD k 0 + 1) % 65536 := by
  rw [take_snoc l k h, ansF, List.foldl_append]; rfl
theorem ansF_bounds {q : Int} (hq : 0 ≤ q ∧ q ≤ 65535) (l : List Int) : 0 ≤ ansF q l ∧ ansF q l ≤ 65535 := by
  unfold ansF
  induction l generalizing q with
  | nil => exact hq
  | cons x l ih => exact ih (show 0 ≤ (5 * q + x + 1) % 65536 ∧ (5 * q + x + 1) % 65536 ≤ 65535 by omega)
theorem all_getD {l : List Int} {q : Int → Bool} (h : l.all q = true) {j : Nat} (hj : j < l.length) : q (l.getD j 0) = true := by
  simp only [List.all_eq_true] at h
  have := h l[j] (List.getElem_mem hj)
  simpa [List.getD, hj] using this

theorem hb28 : HasBody Try.prog 28 := fun _ _ => by kernel_rfl
noncomputable def K28_0 : List Item := adv 9 [] (bodyOf Try.f28)
noncomputable def K28_1 : List Item := adv 5 [] K28_0
noncomputable def K28_2 : List Item := adv 5 [] K28_0
set_option maxRecDepth 20000 in
set_option maxHeartbeats 20000000 in
theorem word_any (n : Int) (w : World) : Ret Try.prog 28 #[.int .i64 n] w (fun v w' => v = .bool (wordB n) ∧ Sep w [] w') := by
  have S0 := Sep.refl w
  refine Ret.named fun R hR => ?_
  refine Ret.of_J (N := 9) [(0, .int .i64 n)] Try.func28 rfl rfl (Nat.le_of_ble_eq_true (by kernel_rfl)) (by kernel_rfl) ?_
  refine J.run 9 K28_0 [(5, .bool (decide (n ≥ 0))), (0, .int .i64 n)] w (by kernel_rfl) ?_
  by_cases fk1 : n ≥ 0
  · skip
    refine J.head (.bool true) (congrArg Value.bool (decide_eq_true fk1)) ?_
    refine J.run 5 K28_1 [(2, .bool (decide (n ≤ 65535)))] w (by kernel_rfl) ?_
    refine J.ret Try.f28 [.bool (decide (n ≤ 65535))] Try.func28 ⟨by kernel_rfl, trivial⟩ ?_
    refine hR _ _ ?_
    exact ⟨congrArg Value.bool (by unfold wordB; first | omega | (simp; done) | (simp; omega) | (simp_all; done) | (simp_all; omega)), S0.nil⟩
  · skip
    refine J.head (.bool false) (congrArg Value.bool (decide_eq_false fk1)) ?_
    refine J.run 5 K28_2 [(2, .bool false)] w (by kernel_rfl) ?_
    refine J.ret Try.f28 [.bool false] Try.func28 ⟨by kernel_rfl, trivial⟩ ?_
    refine hR _ _ ?_
    exact ⟨congrArg Value.bool (by unfold wordB; first | omega | (simp; done) | (simp; omega) | (simp_all; done) | (simp_all; omega)), S0.nil⟩

theorem hb26 : HasBody Try.prog 26 := fun _ _ => by kernel_rfl
noncomputable def K26_0 : List Item := adv 9 [] (bodyOf Try.f26)
noncomputable def K26_1 : List Item := adv 5 [] K26_0
noncomputable def K26_2 : List Item := adv 5 [] K26_0
set_option maxRecDepth 20000 in
set_option maxHeartbeats 20000000 in
theorem question_any (n : Int) (w : World) : Ret Try.prog 26 #[.int .i64 n] w (fun v w' => v = .bool (questionB n) ∧ Sep w [] w') := by
  have S0 := Sep.refl w
  refine Ret.named fun R hR => ?_
  refine Ret.of_J (N := 9) [(0, .int .i64 n)] Try.func26 rfl rfl (Nat.le_of_ble_eq_true (by kernel_rfl)) (by kernel_rfl) ?_
  refine J.run 9 K26_0 [(5, .bool (decide (n ≥ 1))), (0, .int .i64 n)] w (by kernel_rfl) ?_
  by_cases fk1 : n ≥ 1
  · skip
    refine J.head (.bool true) (congrArg Value.bool (decide_eq_true fk1)) ?_
    refine J.run 5 K26_1 [(2, .bool (decide (n ≤ 65535)))] w (by kernel_rfl) ?_
    refine J.ret Try.f26 [.bool (decide (n ≤ 65535))] Try.func26 ⟨by kernel_rfl, trivial⟩ ?_
    refine hR _ _ ?_
    exact ⟨congrArg Value.bool (by unfold questionB; first | omega | (simp; done) | (simp; omega) | (simp_all; done) | (simp_all; omega)), S0.nil⟩
  · skip
    refine J.head (.bool false) (congrArg Value.bool (decide_eq_false fk1)) ?_
    refine J.run 5 K26_2 [(2, .bool false)] w (by kernel_rfl) ?_
    refine J.ret Try.f26 [.bool false] Try.func26 ⟨by kernel_rfl, trivial⟩ ?_
    refine hR _ _ ?_
    exact ⟨congrArg Value.bool (by unfold questionB; first | omega | (simp; done) | (simp; omega) | (simp_all; done) | (simp_all; omega)), S0.nil⟩

theorem hb27 : HasBody Try.prog 27 := fun _ _ => by kernel_rfl
noncomputable def K27_0 : List Item := adv 9 [] (bodyOf Try.f27)
noncomputable def K27_1 : List Item := adv 5 [] K27_0
noncomputable def K27_2 : List Item := adv 5 [] K27_0
set_option maxRecDepth 20000 in
set_option maxHeartbeats 20000000 in
theorem instant_any (n : Int) (w : World) : Ret Try.prog 27 #[.int .i64 n] w (fun v w' => v = .bool (instantB n) ∧ Sep w [] w') := by
  have S0 := Sep.refl w
  refine Ret.named fun R hR => ?_
  refine Ret.of_J (N := 9) [(0, .int .i64 n)] Try.func27 rfl rfl (Nat.le_of_ble_eq_true (by kernel_rfl)) (by kernel_rfl) ?_
  refine J.run 9 K27_0 [(5, .bool (decide (n ≥ 0))), (0, .int .i64 n)] w (by kernel_rfl) ?_
  by_cases fk1 : n ≥ 0
  · skip
    refine J.head (.bool true) (congrArg Value.bool (decide_eq_true fk1)) ?_
    refine J.run 5 K27_1 [(2, .bool (decide (n ≤ 1099511627776)))] w (by kernel_rfl) ?_
    refine J.ret Try.f27 [.bool (decide (n ≤ 1099511627776))] Try.func27 ⟨by kernel_rfl, trivial⟩ ?_
    refine hR _ _ ?_
    exact ⟨congrArg Value.bool (by unfold instantB; first | omega | (simp; done) | (simp; omega) | (simp_all; done) | (simp_all; omega)), S0.nil⟩
  · skip
    refine J.head (.bool false) (congrArg Value.bool (decide_eq_false fk1)) ?_
    refine J.run 5 K27_2 [(2, .bool false)] w (by kernel_rfl) ?_
    refine J.ret Try.f27 [.bool false] Try.func27 ⟨by kernel_rfl, trivial⟩ ?_
    refine hR _ _ ?_
    exact ⟨congrArg Value.bool (by unfold instantB; first | omega | (simp; done) | (simp; omega) | (simp_all; done) | (simp_all; omega)), S0.nil⟩

theorem hb13 : HasBody Try.prog 13 := fun _ _ => by kernel_rfl
noncomputable def K13_0 : List Item := adv 9 [] (bodyOf Try.f13)
noncomputable def K13_1 : List Item := adv 5 [] K13_0
noncomputable def K13_2 : List Item := adv 5 [] K13_0
set_option maxRecDepth 20000 in
set_option maxHeartbeats 20000000 in
theorem rquestion_any (n : Int) (w : World) : Ret Try.prog 13 #[.int .i64 n] w (fun v w' => v = .bool (questionB n) ∧ Sep w [] w') := by
  have S0 := Sep.refl w
  refine Ret.named fun R hR => ?_
  refine Ret.of_J (N := 9) [(0, .int .i64 n)] Try.func13 rfl rfl (Nat.le_of_ble_eq_true (by kernel_rfl)) (by kernel_rfl) ?_
  refine J.run 9 K13_0 [(5, .bool (decide (n ≥ 1))), (0, .int .i64 n)] w (by kernel_rfl) ?_
  by_cases fk1 : n ≥ 1
  · skip
    refine J.head (.bool true) (congrArg Value.bool (decide_eq_true fk1)) ?_
    refine J.run 5 K13_1 [(2, .bool (decide (n ≤ 65535)))] w (by kernel_rfl) ?_
    refine J.ret Try.f13 [.bool (decide (n ≤ 65535))] Try.func13 ⟨by kernel_rfl, trivial⟩ ?_
    refine hR _ _ ?_
    exact ⟨congrArg Value.bool (by unfold questionB; first | omega | (simp; done) | (simp; omega) | (simp_all; done) | (simp_all; omega)), S0.nil⟩
  · skip
    refine J.head (.bool false) (congrArg Value.bool (decide_eq_false fk1)) ?_
    refine J.run 5 K13_2 [(2, .bool false)] w (by kernel_rfl) ?_
    refine J.ret Try.f13 [.bool false] Try.func13 ⟨by kernel_rfl, trivial⟩ ?_
    refine hR _ _ ?_
    exact ⟨congrArg Value.bool (by unfold questionB; first | omega | (simp; done) | (simp; omega) | (simp_all; done) | (simp_all; omega)), S0.nil⟩

theorem hb30 : HasBody Try.prog 30 := fun _ _ => by kernel_rfl
noncomputable def K30_0 : List Item := adv 9 [] (bodyOf Try.f30)
noncomputable def K30_1 : List Item := adv 5 [] K30_0
noncomputable def K30_2 : List Item := adv 5 [] K30_0
set_option maxRecDepth 20000 in
set_option maxHeartbeats 20000000 in
theorem rtime_any (n : Int) (w : World) : Ret Try.prog 30 #[.int .i64 n] w (fun v w' => v = .bool (instantB n) ∧ Sep w [] w') := by
  have S0 := Sep.refl w
  refine Ret.named fun R hR => ?_
  refine Ret.of_J (N := 9) [(0, .int .i64 n)] Try.func30 rfl rfl (Nat.le_of_ble_eq_true (by kernel_rfl)) (by kernel_rfl) ?_
  refine J.run 9 K30_0 [(5, .bool (decide (n ≥ 0))), (0, .int .i64 n)] w (by kernel_rfl) ?_
  by_cases fk1 : n ≥ 0
  · skip
    refine J.head (.bool true) (congrArg Value.bool (decide_eq_true fk1)) ?_
    refine J.run 5 K30_1 [(2, .bool (decide (n ≤ 1099511627776)))] w (by kernel_rfl) ?_
    refine J.ret Try.f30 [.bool (decide (n ≤ 1099511627776))] Try.func30 ⟨by kernel_rfl, trivial⟩ ?_
    refine hR _ _ ?_
    exact ⟨congrArg Value.bool (by unfold instantB; first | omega | (simp; done) | (simp; omega) | (simp_all; done) | (simp_all; omega)), S0.nil⟩
  · skip
    refine J.head (.bool false) (congrArg Value.bool (decide_eq_false fk1)) ?_
    refine J.run 5 K30_2 [(2, .bool false)] w (by kernel_rfl) ?_
    refine J.ret Try.f30 [.bool false] Try.func30 ⟨by kernel_rfl, trivial⟩ ?_
    refine hR _ _ ?_
    exact ⟨congrArg Value.bool (by unfold instantB; first | omega | (simp; done) | (simp; omega) | (simp_all; done) | (simp_all; omega)), S0.nil⟩

theorem hb23 : HasBody Try.prog 23 := fun _ _ => by kernel_rfl
noncomputable def K23_0 : List Item := adv 2 [] (bodyOf Try.f23)
noncomputable def K23_1 : List Item := adv 5 [] (popK K23_0)
noncomputable def K23_2 : List Item := adv 1 [] (popK (popK K23_1))
noncomputable def K23_3 : List Item := adv 1 [] K23_2
noncomputable def K23_4 : List Item := adv 2 [] (popK (popK K23_3))
noncomputable def K23_5 : List Item := adv 1 [] K23_4
noncomputable def K23_6 : List Item := adv 1 [] (popK K23_5)
noncomputable def K23_7 : List Item := adv 7 [] K23_6
noncomputable def K23_8 : List Item := adv 3 [] (popK K23_7)
noncomputable def K23_9 : List Item := adv 1 [] K23_8
noncomputable def K23_10 : List Item := adv 3 [] (popK K23_9)
noncomputable def K23_11 : List Item := adv 1 [] K23_10
noncomputable def K23_12 : List Item := adv 1 [] (popK K23_11)
noncomputable def K23_13 : List Item := adv 4 [] (popK K23_12)
noncomputable def K23_14 : List Item := adv 1 [] K23_13
noncomputable def K23_15 : List Item := adv 1 [] (popK K23_14)
noncomputable def K23_16 : List Item := adv 1 [] K23_15
noncomputable def K23_17 : List Item := adv 5 [] (popK K23_16)
noncomputable def K23_18 : List Item := adv 10 [] K23_13
noncomputable def K23_19 : List Item := adv 18 [] K23_10
noncomputable def K23_20 : List Item := adv 23 [] K23_8
noncomputable def K23_21 : List Item := adv 1 [] K23_6
noncomputable def K23_22 : List Item := adv 4 [] (popK K23_21)
noncomputable def K23_23 : List Item := adv 1 [] K23_22
noncomputable def K23_24 : List Item := adv 3 [] (popK K23_23)
noncomputable def K23_25 : List Item := adv 1 [] K23_24
noncomputable def K23_26 : List Item := adv 3 [] (popK K23_25)
noncomputable def K23_27 : List Item := adv 1 [] K23_26
noncomputable def K23_28 : List Item := adv 1 [] (popK K23_27)
noncomputable def K23_29 : List Item := adv 4 [] (popK K23_28)
noncomputable def K23_30 : List Item := adv 1 [] K23_29
noncomputable def K23_31 : List Item := adv 1 [] (popK K23_30)
noncomputable def K23_32 : List Item := adv 7 [] K23_31
noncomputable def K23_33 : List Item := adv 10 [] K23_29
noncomputable def K23_34 : List Item := adv 18 [] K23_26
noncomputable def K23_35 : List Item := adv 23 [] K23_24
noncomputable def K23_36 : List Item := adv 28 [] K23_22
noncomputable def K23_37 : List Item := adv 37 [] K23_4
noncomputable def K23_38 : List Item := adv 42 [] K23_2
set_option maxRecDepth 20000 in
set_option maxHeartbeats 20000000 in
theorem valid_any (q a e : Int) (o f : Bool) (w : World) : Ret Try.prog 23 #[.agg #[.int .i64 q, .int .i64 a, .int .i64 e, .bool o, .bool f]] w (fun v w' => v = .bool (validB q a e o f) ∧ Sep w [] w') := by
  have S0 := Sep.refl w
  refine Ret.named fun R hR => ?_
  refine Ret.of_J (N := 47) [(0, .agg #[.int .i64 q, .int .i64 a, .int .i64 e, .bool o, .bool f])] Try.func23 rfl rfl (Nat.le_of_ble_eq_true (by kernel_rfl)) (by kernel_rfl) ?_
  refine J.run 2 K23_0 [(0, .agg #[.int .i64 q, .int .i64 a, .int .i64 e, .bool o, .bool f])] w (by kernel_rfl) ?_
  refine J.new S0 1 [.int .i64 q, .int .i64 a, .int .i64 e, .bool o, .bool f] 31 (by kernel_rfl) ?_
  intro b1 w1 S1
  refine J.run 5 K23_1 [(3, .pointer (some ⟨b1, 0, none⟩)), (1, .pointer (some ⟨b1, 0, none⟩))] w1 (by kernel_rfl) ?_
  refine J.ok (OK.ldBox S1 0 4 3 0 (.int .i64 q) (by kernel_rfl) rfl (by kernel_rfl)) ?_
  refine J.callF 5 26 #[.int .i64 q] hb26 (by kernel_rfl) (question_any q _) ?_
  rintro _ w2 ⟨rfl, T1⟩
  have S2 : Sep w [box b1 [.int .i64 q, .int .i64 a, .int .i64 e, .bool o, .bool f] 31] w2 := S1.trans T1
  clear T1 S1
  refine J.run 1 K23_2 [(6, .bool (questionB q)), (1, .pointer (some ⟨b1, 0, none⟩))] w2 (by kernel_rfl) ?_
  rcases Bool.eq_false_or_eq_true (questionB q) with fk1 | fk1
  · skip
    refine J.head (.bool true) (congrArg Value.bool fk1) ?_
    refine J.run 1 K23_3 [(7, .pointer (some ⟨b1, 1, none⟩)), (6, .bool true), (1, .pointer (some ⟨b1, 0, none⟩))] w2 (by kernel_rfl) ?_
    refine J.ok (OK.ldBox S2 0 8 3 1 (.int .i64 a) (by kernel_rfl) rfl (by kernel_rfl)) ?_
    refine J.callF 9 27 #[.int .i64 a] hb27 (by kernel_rfl) (instant_any a _) ?_
    rintro _ w3 ⟨rfl, T2⟩
    have S3 : Sep w [box b1 [.int .i64 q, .int .i64 a, .int .i64 e, .bool o, .bool f] 31] w3 := S2.trans T2
    clear T2 S2
    refine J.run 2 K23_4 [(11, .bool (instantB a)), (1, .pointer (some ⟨b1, 0, none⟩))] w3 (by kernel_rfl) ?_
    rcases Bool.eq_false_or_eq_true (instantB a) with fk2 | fk2
    · skip
      refine J.head (.bool true) (congrArg Value.bool fk2) ?_
      refine J.run 1 K23_5 [(12, .pointer (some ⟨b1, 3, none⟩)), (11, .bool true), (1, .pointer (some ⟨b1, 0, none⟩))] w3 (by kernel_rfl) ?_
      refine J.ok (OK.ldBox S3 0 13 4 3 (.bool o) (by kernel_rfl) rfl (by kernel_rfl)) ?_
      refine J.run 1 K23_6 [(14, .bool o), (11, .bool true), (1, .pointer (some ⟨b1, 0, none⟩))] w3 (by kernel_rfl) ?_
      rcases Bool.eq_false_or_eq_true o with fk3 | fk3
      · skip
        refine J.head (.bool true) (congrArg Value.bool fk3) ?_
        refine J.run 7 K23_7 [(21, .pointer (some ⟨b1, 2, none⟩)), (20, .bool true), (1, .pointer (some ⟨b1, 0, none⟩))] w3 (by kernel_rfl) ?_
        refine J.ok (OK.ldBox S3 0 22 3 2 (.int .i64 e) (by kernel_rfl) rfl (by kernel_rfl)) ?_
        refine J.run 3 K23_8 [(25, .bool (decide (e ≥ 0))), (1, .pointer (some ⟨b1, 0, none⟩))] w3 (by kernel_rfl) ?_
        by_cases fk4 : e ≥ 0
        · skip
          refine J.head (.bool true) (congrArg Value.bool (decide_eq_true fk4)) ?_
          refine J.run 1 K23_9 [(26, .pointer (some ⟨b1, 2, none⟩)), (25, .bool true), (1, .pointer (some ⟨b1, 0, none⟩))] w3 (by kernel_rfl) ?_
          refine J.ok (OK.ldBox S3 0 27 3 2 (.int .i64 e) (by kernel_rfl) rfl (by kernel_rfl)) ?_
          refine J.run 3 K23_10 [(30, .bool (decide (e ≤ 7))), (1, .pointer (some ⟨b1, 0, none⟩))] w3 (by kernel_rfl) ?_
          by_cases fk5 : e ≤ 7
          · skip
            refine J.head (.bool true) (congrArg Value.bool (decide_eq_true fk5)) ?_
            refine J.run 1 K23_11 [(31, .pointer (some ⟨b1, 4, none⟩)), (30, .bool true), (1, .pointer (some ⟨b1, 0, none⟩))] w3 (by kernel_rfl) ?_
            refine J.ok (OK.ldBox S3 0 32 4 4 (.bool f) (by kernel_rfl) rfl (by kernel_rfl)) ?_
            refine J.run 1 K23_12 [(33, .pointer (some ⟨b1, 2, none⟩)), (32, .bool f), (30, .bool true), (1, .pointer (some ⟨b1, 0, none⟩))] w3 (by kernel_rfl) ?_
            refine J.ok (OK.ldBox S3 0 34 3 2 (.int .i64 e) (by kernel_rfl) rfl (by kernel_rfl)) ?_
            refine J.run 4 K23_13 [(38, .bool (f == (e == 7))), (1, .pointer (some ⟨b1, 0, none⟩))] w3 (by kernel_rfl) ?_
            rcases Bool.eq_false_or_eq_true (f == (e == 7)) with fk6 | fk6
            · skip
              refine J.head (.bool true) (congrArg Value.bool fk6) ?_
              refine J.run 1 K23_14 [(39, .pointer (some ⟨b1, 3, none⟩)), (38, .bool true), (1, .pointer (some ⟨b1, 0, none⟩))] w3 (by kernel_rfl) ?_
              refine J.ok (OK.ldBox S3 0 40 4 3 (.bool o) (by kernel_rfl) rfl (by kernel_rfl)) ?_
              refine J.run 1 K23_15 [(41, .bool o), (38, .bool true), (1, .pointer (some ⟨b1, 0, none⟩))] w3 (by kernel_rfl) ?_
              refine J.head (.bool true) (congrArg Value.bool fk3) ?_
              refine J.run 1 K23_16 [(42, .pointer (some ⟨b1, 4, none⟩)), (41, .bool true), (38, .bool true)] w3 (by kernel_rfl) ?_
              refine J.ok (OK.ldBox S3 0 43 4 4 (.bool f) (by kernel_rfl) rfl (by kernel_rfl)) ?_
              refine J.run 5 K23_17 [(2, .bool (!f))] w3 (by kernel_rfl) ?_
              refine J.ret Try.f23 [.bool (!f)] Try.func23 ⟨by kernel_rfl, trivial⟩ ?_
              refine hR _ _ ?_
              exact ⟨congrArg Value.bool (by unfold validB; first | omega | (simp; done) | (simp; omega) | (simp_all; done) | (simp_all; omega)), S3.nil⟩
            · skip
              refine J.head (.bool false) (congrArg Value.bool fk6) ?_
              refine J.run 10 K23_18 [(2, .bool false)] w3 (by kernel_rfl) ?_
              refine J.ret Try.f23 [.bool false] Try.func23 ⟨by kernel_rfl, trivial⟩ ?_
              refine hR _ _ ?_
              exact ⟨congrArg Value.bool (by unfold validB; first | omega | (simp; done) | (simp; omega) | (simp_all; done) | (simp_all; omega)), S3.nil⟩
          · skip
            refine J.head (.bool false) (congrArg Value.bool (decide_eq_false fk5)) ?_
            refine J.run 18 K23_19 [(2, .bool false)] w3 (by kernel_rfl) ?_
            refine J.ret Try.f23 [.bool false] Try.func23 ⟨by kernel_rfl, trivial⟩ ?_
            refine hR _ _ ?_
            exact ⟨congrArg Value.bool (by unfold validB; first | omega | (simp; done) | (simp; omega) | (simp_all; done) | (simp_all; omega)), S3.nil⟩
        · skip
          refine J.head (.bool false) (congrArg Value.bool (decide_eq_false fk4)) ?_
          refine J.run 23 K23_20 [(2, .bool false)] w3 (by kernel_rfl) ?_
          refine J.ret Try.f23 [.bool false] Try.func23 ⟨by kernel_rfl, trivial⟩ ?_
          refine hR _ _ ?_
          exact ⟨congrArg Value.bool (by unfold validB; first | omega | (simp; done) | (simp; omega) | (simp_all; done) | (simp_all; omega)), S3.nil⟩
      · skip
        refine J.head (.bool false) (congrArg Value.bool fk3) ?_
        refine J.run 1 K23_21 [(15, .pointer (some ⟨b1, 1, none⟩)), (14, .bool false), (11, .bool true), (1, .pointer (some ⟨b1, 0, none⟩))] w3 (by kernel_rfl) ?_
        refine J.ok (OK.ldBox S3 0 16 3 1 (.int .i64 a) (by kernel_rfl) rfl (by kernel_rfl)) ?_
        refine J.run 4 K23_22 [(20, .bool (a == 0)), (1, .pointer (some ⟨b1, 0, none⟩))] w3 (by kernel_rfl) ?_
        by_cases fk8 : a = 0
        · skip
          refine J.head (.bool true) (congrArg Value.bool (beq_iff_eq.2 fk8)) ?_
          refine J.run 1 K23_23 [(21, .pointer (some ⟨b1, 2, none⟩)), (20, .bool true), (1, .pointer (some ⟨b1, 0, none⟩))] w3 (by kernel_rfl) ?_
          refine J.ok (OK.ldBox S3 0 22 3 2 (.int .i64 e) (by kernel_rfl) rfl (by kernel_rfl)) ?_
          refine J.run 3 K23_24 [(25, .bool (decide (e ≥ 0))), (1, .pointer (some ⟨b1, 0, none⟩))] w3 (by kernel_rfl) ?_
          by_cases fk9 : e ≥ 0
          · skip
            refine J.head (.bool true) (congrArg Value.bool (decide_eq_true fk9)) ?_
            refine J.run 1 K23_25 [(26, .pointer (some ⟨b1, 2, none⟩)), (25, .bool true), (1, .pointer (some ⟨b1, 0, none⟩))] w3 (by kernel_rfl) ?_
            refine J.ok (OK.ldBox S3 0 27 3 2 (.int .i64 e) (by kernel_rfl) rfl (by kernel_rfl)) ?_
            refine J.run 3 K23_26 [(30, .bool (decide (e ≤ 7))), (1, .pointer (some ⟨b1, 0, none⟩))] w3 (by kernel_rfl) ?_
            by_cases fk10 : e ≤ 7
            · skip
              refine J.head (.bool true) (congrArg Value.bool (decide_eq_true fk10)) ?_
              refine J.run 1 K23_27 [(31, .pointer (some ⟨b1, 4, none⟩)), (30, .bool true), (1, .pointer (some ⟨b1, 0, none⟩))] w3 (by kernel_rfl) ?_
              refine J.ok (OK.ldBox S3 0 32 4 4 (.bool f) (by kernel_rfl) rfl (by kernel_rfl)) ?_
              refine J.run 1 K23_28 [(33, .pointer (some ⟨b1, 2, none⟩)), (32, .bool f), (30, .bool true), (1, .pointer (some ⟨b1, 0, none⟩))] w3 (by kernel_rfl) ?_
              refine J.ok (OK.ldBox S3 0 34 3 2 (.int .i64 e) (by kernel_rfl) rfl (by kernel_rfl)) ?_
              refine J.run 4 K23_29 [(38, .bool (f == (e == 7))), (1, .pointer (some ⟨b1, 0, none⟩))] w3 (by kernel_rfl) ?_
              rcases Bool.eq_false_or_eq_true (f == (e == 7)) with fk11 | fk11
              · skip
                refine J.head (.bool true) (congrArg Value.bool fk11) ?_
                refine J.run 1 K23_30 [(39, .pointer (some ⟨b1, 3, none⟩)), (38, .bool true), (1, .pointer (some ⟨b1, 0, none⟩))] w3 (by kernel_rfl) ?_
                refine J.ok (OK.ldBox S3 0 40 4 3 (.bool o) (by kernel_rfl) rfl (by kernel_rfl)) ?_
                refine J.run 1 K23_31 [(41, .bool o), (38, .bool true), (1, .pointer (some ⟨b1, 0, none⟩))] w3 (by kernel_rfl) ?_
                refine J.head (.bool false) (congrArg Value.bool fk3) ?_
                refine J.run 7 K23_32 [(2, .bool true)] w3 (by kernel_rfl) ?_
                refine J.ret Try.f23 [.bool true] Try.func23 ⟨by kernel_rfl, trivial⟩ ?_
                refine hR _ _ ?_
                exact ⟨congrArg Value.bool (by unfold validB; first | omega | (simp; done) | (simp; omega) | (simp_all; done) | (simp_all; omega)), S3.nil⟩
              · skip
                refine J.head (.bool false) (congrArg Value.bool fk11) ?_
                refine J.run 10 K23_33 [(2, .bool false)] w3 (by kernel_rfl) ?_
                refine J.ret Try.f23 [.bool false] Try.func23 ⟨by kernel_rfl, trivial⟩ ?_
                refine hR _ _ ?_
                exact ⟨congrArg Value.bool (by unfold validB; first | omega | (simp; done) | (simp; omega) | (simp_all; done) | (simp_all; omega)), S3.nil⟩
            · skip
              refine J.head (.bool false) (congrArg Value.bool (decide_eq_false fk10)) ?_
              refine J.run 18 K23_34 [(2, .bool false)] w3 (by kernel_rfl) ?_
              refine J.ret Try.f23 [.bool false] Try.func23 ⟨by kernel_rfl, trivial⟩ ?_
              refine hR _ _ ?_
              exact ⟨congrArg Value.bool (by unfold validB; first | omega | (simp; done) | (simp; omega) | (simp_all; done) | (simp_all; omega)), S3.nil⟩
          · skip
            refine J.head (.bool false) (congrArg Value.bool (decide_eq_false fk9)) ?_
            refine J.run 23 K23_35 [(2, .bool false)] w3 (by kernel_rfl) ?_
            refine J.ret Try.f23 [.bool false] Try.func23 ⟨by kernel_rfl, trivial⟩ ?_
            refine hR _ _ ?_
            exact ⟨congrArg Value.bool (by unfold validB; first | omega | (simp; done) | (simp; omega) | (simp_all; done) | (simp_all; omega)), S3.nil⟩
        · skip
          refine J.head (.bool false) (congrArg Value.bool (beq_eq_false_iff_ne.2 fk8)) ?_
          refine J.run 28 K23_36 [(2, .bool false)] w3 (by kernel_rfl) ?_
          refine J.ret Try.f23 [.bool false] Try.func23 ⟨by kernel_rfl, trivial⟩ ?_
          refine hR _ _ ?_
          exact ⟨congrArg Value.bool (by unfold validB; first | omega | (simp; done) | (simp; omega) | (simp_all; done) | (simp_all; omega)), S3.nil⟩
    · skip
      refine J.head (.bool false) (congrArg Value.bool fk2) ?_
      refine J.run 37 K23_37 [(2, .bool false)] w3 (by kernel_rfl) ?_
      refine J.ret Try.f23 [.bool false] Try.func23 ⟨by kernel_rfl, trivial⟩ ?_
      refine hR _ _ ?_
      exact ⟨congrArg Value.bool (by unfold validB; first | omega | (simp; done) | (simp; omega) | (simp_all; done) | (simp_all; omega)), S3.nil⟩
  · skip
    refine J.head (.bool false) (congrArg Value.bool fk1) ?_
    refine J.run 42 K23_38 [(2, .bool false)] w2 (by kernel_rfl) ?_
    refine J.ret Try.f23 [.bool false] Try.func23 ⟨by kernel_rfl, trivial⟩ ?_
    refine hR _ _ ?_
    exact ⟨congrArg Value.bool (by unfold validB; first | omega | (simp; done) | (simp; omega) | (simp_all; done) | (simp_all; omega)), S2.nil⟩

theorem hb24 : HasBody Try.prog 24 := fun _ _ => by kernel_rfl
noncomputable def K24_0 : List Item := adv 2 [] (bodyOf Try.f24)
noncomputable def K24_1 : List Item := adv 6 [] (popK K24_0)
noncomputable def K24_2 : List Item := adv 2 [] (popK (popK K24_1))
noncomputable def K24_3 : List Item := adv 1 [] K24_2
noncomputable def K24_4 : List Item := adv 3 [] (popK (popK K24_3))
noncomputable def K24_5 : List Item := adv 1 [] K24_4
noncomputable def K24_6 : List Item := adv 2 [] (popK K24_5)
noncomputable def K24_7 : List Item := adv 7 [] K24_6
noncomputable def K24_8 : List Item := adv 3 [] (popK K24_7)
noncomputable def K24_9 : List Item := adv 10 [true] K24_8
noncomputable def K24_10 : List Item := adv 1 [] K24_8
noncomputable def K24_11 : List Item := adv 3 [] (popK K24_10)
noncomputable def K24_12 : List Item := adv 5 [true] K24_11
noncomputable def K24_13 : List Item := adv 5 [false] K24_11
noncomputable def K24_14 : List Item := adv 1 [] (popK K24_13)
noncomputable def K24_15 : List Item := adv 3 [] (popK K24_14)
noncomputable def K24_16 : List Item := adv 1 [] K24_15
noncomputable def K24_17 : List Item := adv 1 [] (popK K24_16)
noncomputable def K24_18 : List Item := adv 1 [] K24_17
noncomputable def K24_19 : List Item := adv 5 [] (popK K24_18)
noncomputable def K24_20 : List Item := adv 10 [] K24_15
noncomputable def K24_21 : List Item := adv 1 [] K24_6
noncomputable def K24_22 : List Item := adv 4 [] (popK K24_21)
noncomputable def K24_23 : List Item := adv 1 [] K24_22
noncomputable def K24_24 : List Item := adv 3 [] (popK K24_23)
noncomputable def K24_25 : List Item := adv 10 [true] K24_24
noncomputable def K24_26 : List Item := adv 1 [] K24_24
noncomputable def K24_27 : List Item := adv 3 [] (popK K24_26)
noncomputable def K24_28 : List Item := adv 5 [true] K24_27
noncomputable def K24_29 : List Item := adv 5 [false] K24_27
noncomputable def K24_30 : List Item := adv 1 [] (popK K24_29)
noncomputable def K24_31 : List Item := adv 3 [] (popK K24_30)
noncomputable def K24_32 : List Item := adv 1 [] K24_31
noncomputable def K24_33 : List Item := adv 1 [] (popK K24_32)
noncomputable def K24_34 : List Item := adv 7 [] K24_33
noncomputable def K24_35 : List Item := adv 10 [] K24_31
noncomputable def K24_36 : List Item := adv 15 [true] K24_22
noncomputable def K24_37 : List Item := adv 25 [true] K24_4
noncomputable def K24_38 : List Item := adv 31 [true] K24_2
set_option maxRecDepth 20000 in
set_option maxHeartbeats 20000000 in
theorem rvalid_any (q a e : Int) (o f : Bool) (w : World) : Ret Try.prog 24 #[.agg #[.int .i64 q, .int .i64 a, .int .i64 e, .bool o, .bool f]] w (fun v w' => v = .bool (validB q a e o f) ∧ Sep w [] w') := by
  have S0 := Sep.refl w
  refine Ret.named fun R hR => ?_
  refine Ret.of_J (N := 48) [(0, .agg #[.int .i64 q, .int .i64 a, .int .i64 e, .bool o, .bool f])] Try.func24 rfl rfl (Nat.le_of_ble_eq_true (by kernel_rfl)) (by kernel_rfl) ?_
  refine J.run 2 K24_0 [(0, .agg #[.int .i64 q, .int .i64 a, .int .i64 e, .bool o, .bool f])] w (by kernel_rfl) ?_
  refine J.new S0 1 [.int .i64 q, .int .i64 a, .int .i64 e, .bool o, .bool f] 31 (by kernel_rfl) ?_
  intro b1 w1 S1
  refine J.run 6 K24_1 [(3, .pointer (some ⟨b1, 0, none⟩)), (1, .pointer (some ⟨b1, 0, none⟩))] w1 (by kernel_rfl) ?_
  refine J.ok (OK.ldBox S1 0 4 3 0 (.int .i64 q) (by kernel_rfl) rfl (by kernel_rfl)) ?_
  refine J.callF 5 13 #[.int .i64 q] hb13 (by kernel_rfl) (rquestion_any q _) ?_
  rintro _ w2 ⟨rfl, T1⟩
  have S2 : Sep w [box b1 [.int .i64 q, .int .i64 a, .int .i64 e, .bool o, .bool f] 31] w2 := S1.trans T1
  clear T1 S1
  refine J.run 2 K24_2 [(7, .bool (!(questionB q))), (1, .pointer (some ⟨b1, 0, none⟩))] w2 (by kernel_rfl) ?_
  rcases Bool.eq_false_or_eq_true (questionB q) with fk1 | fk1
  · skip
    refine J.head (.bool false) (congrArg Value.bool (by rw [fk1]; rfl)) ?_
    refine J.run 1 K24_3 [(8, .pointer (some ⟨b1, 1, none⟩)), (7, .bool false), (1, .pointer (some ⟨b1, 0, none⟩))] w2 (by kernel_rfl) ?_
    refine J.ok (OK.ldBox S2 0 9 3 1 (.int .i64 a) (by kernel_rfl) rfl (by kernel_rfl)) ?_
    refine J.callF 10 30 #[.int .i64 a] hb30 (by kernel_rfl) (rtime_any a _) ?_
    rintro _ w3 ⟨rfl, T2⟩
    have S3 : Sep w [box b1 [.int .i64 q, .int .i64 a, .int .i64 e, .bool o, .bool f] 31] w3 := S2.trans T2
    clear T2 S2
    refine J.run 3 K24_4 [(13, .bool (!(instantB a))), (1, .pointer (some ⟨b1, 0, none⟩))] w3 (by kernel_rfl) ?_
    rcases Bool.eq_false_or_eq_true (instantB a) with fk2 | fk2
    · skip
      refine J.head (.bool false) (congrArg Value.bool (by rw [fk2]; rfl)) ?_
      refine J.run 1 K24_5 [(14, .pointer (some ⟨b1, 3, none⟩)), (13, .bool false), (1, .pointer (some ⟨b1, 0, none⟩))] w3 (by kernel_rfl) ?_
      refine J.ok (OK.ldBox S3 0 15 4 3 (.bool o) (by kernel_rfl) rfl (by kernel_rfl)) ?_
      refine J.run 2 K24_6 [(17, .bool (!o)), (13, .bool false), (1, .pointer (some ⟨b1, 0, none⟩))] w3 (by kernel_rfl) ?_
      rcases Bool.eq_false_or_eq_true o with fk3 | fk3
      · skip
        refine J.head (.bool false) (congrArg Value.bool (by rw [fk3]; rfl)) ?_
        refine J.run 7 K24_7 [(24, .pointer (some ⟨b1, 2, none⟩)), (23, .bool false), (1, .pointer (some ⟨b1, 0, none⟩))] w3 (by kernel_rfl) ?_
        refine J.ok (OK.ldBox S3 0 25 3 2 (.int .i64 e) (by kernel_rfl) rfl (by kernel_rfl)) ?_
        refine J.run 3 K24_8 [(28, .bool (decide (e < 0))), (1, .pointer (some ⟨b1, 0, none⟩))] w3 (by kernel_rfl) ?_
        by_cases fk4 : e < 0
        · skip
          refine J.head (.bool true) (congrArg Value.bool (decide_eq_true fk4)) ?_
          refine J.run 10 K24_9 [(2, .bool false)] w3 (by kernel_rfl) ?_
          refine J.ret Try.f24 [.bool false] Try.func24 ⟨by kernel_rfl, trivial⟩ ?_
          refine hR _ _ ?_
          exact ⟨congrArg Value.bool (by unfold validB; first | omega | (simp; done) | (simp; omega) | (simp_all; done) | (simp_all; omega)), S3.nil⟩
        · skip
          refine J.head (.bool false) (congrArg Value.bool (decide_eq_false fk4)) ?_
          refine J.run 1 K24_10 [(29, .pointer (some ⟨b1, 2, none⟩)), (28, .bool false), (1, .pointer (some ⟨b1, 0, none⟩))] w3 (by kernel_rfl) ?_
          refine J.ok (OK.ldBox S3 0 30 3 2 (.int .i64 e) (by kernel_rfl) rfl (by kernel_rfl)) ?_
          refine J.run 3 K24_11 [(32, .bool (decide (e > 7))), (1, .pointer (some ⟨b1, 0, none⟩))] w3 (by kernel_rfl) ?_
          by_cases fk5 : e > 7
          · skip
            refine J.head (.bool true) (congrArg Value.bool (decide_eq_true fk5)) ?_
            refine J.run 5 K24_12 [(2, .bool false)] w3 (by kernel_rfl) ?_
            refine J.ret Try.f24 [.bool false] Try.func24 ⟨by kernel_rfl, trivial⟩ ?_
            refine hR _ _ ?_
            exact ⟨congrArg Value.bool (by unfold validB; first | omega | (simp; done) | (simp; omega) | (simp_all; done) | (simp_all; omega)), S3.nil⟩
          · skip
            refine J.head (.bool false) (congrArg Value.bool (decide_eq_false fk5)) ?_
            refine J.run 5 K24_13 [(33, .pointer (some ⟨b1, 4, none⟩)), (1, .pointer (some ⟨b1, 0, none⟩))] w3 (by kernel_rfl) ?_
            refine J.ok (OK.ldBox S3 0 34 4 4 (.bool f) (by kernel_rfl) rfl (by kernel_rfl)) ?_
            refine J.run 1 K24_14 [(35, .pointer (some ⟨b1, 2, none⟩)), (34, .bool f), (1, .pointer (some ⟨b1, 0, none⟩))] w3 (by kernel_rfl) ?_
            refine J.ok (OK.ldBox S3 0 36 3 2 (.int .i64 e) (by kernel_rfl) rfl (by kernel_rfl)) ?_
            refine J.run 3 K24_15 [(39, .bool (f == (e == 7))), (1, .pointer (some ⟨b1, 0, none⟩))] w3 (by kernel_rfl) ?_
            rcases Bool.eq_false_or_eq_true (f == (e == 7)) with fk6 | fk6
            · skip
              refine J.head (.bool true) (congrArg Value.bool fk6) ?_
              refine J.run 1 K24_16 [(40, .pointer (some ⟨b1, 3, none⟩)), (39, .bool true), (1, .pointer (some ⟨b1, 0, none⟩))] w3 (by kernel_rfl) ?_
              refine J.ok (OK.ldBox S3 0 41 4 3 (.bool o) (by kernel_rfl) rfl (by kernel_rfl)) ?_
              refine J.run 1 K24_17 [(42, .bool o), (39, .bool true), (1, .pointer (some ⟨b1, 0, none⟩))] w3 (by kernel_rfl) ?_
              refine J.head (.bool true) (congrArg Value.bool fk3) ?_
              refine J.run 1 K24_18 [(43, .pointer (some ⟨b1, 4, none⟩)), (42, .bool true), (39, .bool true)] w3 (by kernel_rfl) ?_
              refine J.ok (OK.ldBox S3 0 44 4 4 (.bool f) (by kernel_rfl) rfl (by kernel_rfl)) ?_
              refine J.run 5 K24_19 [(2, .bool (!f))] w3 (by kernel_rfl) ?_
              refine J.ret Try.f24 [.bool (!f)] Try.func24 ⟨by kernel_rfl, trivial⟩ ?_
              refine hR _ _ ?_
              exact ⟨congrArg Value.bool (by unfold validB; first | omega | (simp; done) | (simp; omega) | (simp_all; done) | (simp_all; omega)), S3.nil⟩
            · skip
              refine J.head (.bool false) (congrArg Value.bool fk6) ?_
              refine J.run 10 K24_20 [(2, .bool false)] w3 (by kernel_rfl) ?_
              refine J.ret Try.f24 [.bool false] Try.func24 ⟨by kernel_rfl, trivial⟩ ?_
              refine hR _ _ ?_
              exact ⟨congrArg Value.bool (by unfold validB; first | omega | (simp; done) | (simp; omega) | (simp_all; done) | (simp_all; omega)), S3.nil⟩
      · skip
        refine J.head (.bool true) (congrArg Value.bool (by rw [fk3]; rfl)) ?_
        refine J.run 1 K24_21 [(18, .pointer (some ⟨b1, 1, none⟩)), (17, .bool true), (13, .bool false), (1, .pointer (some ⟨b1, 0, none⟩))] w3 (by kernel_rfl) ?_
        refine J.ok (OK.ldBox S3 0 19 3 1 (.int .i64 a) (by kernel_rfl) rfl (by kernel_rfl)) ?_
        refine J.run 4 K24_22 [(23, .bool (a != 0)), (1, .pointer (some ⟨b1, 0, none⟩))] w3 (by kernel_rfl) ?_
        by_cases fk8 : a = 0
        · skip
          refine J.head (.bool false) (congrArg Value.bool (bne_eq_false_iff_eq.2 fk8)) ?_
          refine J.run 1 K24_23 [(24, .pointer (some ⟨b1, 2, none⟩)), (23, .bool false), (1, .pointer (some ⟨b1, 0, none⟩))] w3 (by kernel_rfl) ?_
          refine J.ok (OK.ldBox S3 0 25 3 2 (.int .i64 e) (by kernel_rfl) rfl (by kernel_rfl)) ?_
          refine J.run 3 K24_24 [(28, .bool (decide (e < 0))), (1, .pointer (some ⟨b1, 0, none⟩))] w3 (by kernel_rfl) ?_
          by_cases fk9 : e < 0
          · skip
            refine J.head (.bool true) (congrArg Value.bool (decide_eq_true fk9)) ?_
            refine J.run 10 K24_25 [(2, .bool false)] w3 (by kernel_rfl) ?_
            refine J.ret Try.f24 [.bool false] Try.func24 ⟨by kernel_rfl, trivial⟩ ?_
            refine hR _ _ ?_
            exact ⟨congrArg Value.bool (by unfold validB; first | omega | (simp; done) | (simp; omega) | (simp_all; done) | (simp_all; omega)), S3.nil⟩
          · skip
            refine J.head (.bool false) (congrArg Value.bool (decide_eq_false fk9)) ?_
            refine J.run 1 K24_26 [(29, .pointer (some ⟨b1, 2, none⟩)), (28, .bool false), (1, .pointer (some ⟨b1, 0, none⟩))] w3 (by kernel_rfl) ?_
            refine J.ok (OK.ldBox S3 0 30 3 2 (.int .i64 e) (by kernel_rfl) rfl (by kernel_rfl)) ?_
            refine J.run 3 K24_27 [(32, .bool (decide (e > 7))), (1, .pointer (some ⟨b1, 0, none⟩))] w3 (by kernel_rfl) ?_
            by_cases fk10 : e > 7
            · skip
              refine J.head (.bool true) (congrArg Value.bool (decide_eq_true fk10)) ?_
              refine J.run 5 K24_28 [(2, .bool false)] w3 (by kernel_rfl) ?_
              refine J.ret Try.f24 [.bool false] Try.func24 ⟨by kernel_rfl, trivial⟩ ?_
              refine hR _ _ ?_
              exact ⟨congrArg Value.bool (by unfold validB; first | omega | (simp; done) | (simp; omega) | (simp_all; done) | (simp_all; omega)), S3.nil⟩
            · skip
              refine J.head (.bool false) (congrArg Value.bool (decide_eq_false fk10)) ?_
              refine J.run 5 K24_29 [(33, .pointer (some ⟨b1, 4, none⟩)), (1, .pointer (some ⟨b1, 0, none⟩))] w3 (by kernel_rfl) ?_
              refine J.ok (OK.ldBox S3 0 34 4 4 (.bool f) (by kernel_rfl) rfl (by kernel_rfl)) ?_
              refine J.run 1 K24_30 [(35, .pointer (some ⟨b1, 2, none⟩)), (34, .bool f), (1, .pointer (some ⟨b1, 0, none⟩))] w3 (by kernel_rfl) ?_
              refine J.ok (OK.ldBox S3 0 36 3 2 (.int .i64 e) (by kernel_rfl) rfl (by kernel_rfl)) ?_
              refine J.run 3 K24_31 [(39, .bool (f == (e == 7))), (1, .pointer (some ⟨b1, 0, none⟩))] w3 (by kernel_rfl) ?_
              rcases Bool.eq_false_or_eq_true (f == (e == 7)) with fk11 | fk11
              · skip
                refine J.head (.bool true) (congrArg Value.bool fk11) ?_
                refine J.run 1 K24_32 [(40, .pointer (some ⟨b1, 3, none⟩)), (39, .bool true), (1, .pointer (some ⟨b1, 0, none⟩))] w3 (by kernel_rfl) ?_
                refine J.ok (OK.ldBox S3 0 41 4 3 (.bool o) (by kernel_rfl) rfl (by kernel_rfl)) ?_
                refine J.run 1 K24_33 [(42, .bool o), (39, .bool true), (1, .pointer (some ⟨b1, 0, none⟩))] w3 (by kernel_rfl) ?_
                refine J.head (.bool false) (congrArg Value.bool fk3) ?_
                refine J.run 7 K24_34 [(2, .bool true)] w3 (by kernel_rfl) ?_
                refine J.ret Try.f24 [.bool true] Try.func24 ⟨by kernel_rfl, trivial⟩ ?_
                refine hR _ _ ?_
                exact ⟨congrArg Value.bool (by unfold validB; first | omega | (simp; done) | (simp; omega) | (simp_all; done) | (simp_all; omega)), S3.nil⟩
              · skip
                refine J.head (.bool false) (congrArg Value.bool fk11) ?_
                refine J.run 10 K24_35 [(2, .bool false)] w3 (by kernel_rfl) ?_
                refine J.ret Try.f24 [.bool false] Try.func24 ⟨by kernel_rfl, trivial⟩ ?_
                refine hR _ _ ?_
                exact ⟨congrArg Value.bool (by unfold validB; first | omega | (simp; done) | (simp; omega) | (simp_all; done) | (simp_all; omega)), S3.nil⟩
        · skip
          refine J.head (.bool true) (congrArg Value.bool (bne_iff_ne.2 fk8)) ?_
          refine J.run 15 K24_36 [(2, .bool false)] w3 (by kernel_rfl) ?_
          refine J.ret Try.f24 [.bool false] Try.func24 ⟨by kernel_rfl, trivial⟩ ?_
          refine hR _ _ ?_
          exact ⟨congrArg Value.bool (by unfold validB; first | omega | (simp; done) | (simp; omega) | (simp_all; done) | (simp_all; omega)), S3.nil⟩
    · skip
      refine J.head (.bool true) (congrArg Value.bool (by rw [fk2]; rfl)) ?_
      refine J.run 25 K24_37 [(2, .bool false)] w3 (by kernel_rfl) ?_
      refine J.ret Try.f24 [.bool false] Try.func24 ⟨by kernel_rfl, trivial⟩ ?_
      refine hR _ _ ?_
      exact ⟨congrArg Value.bool (by unfold validB; first | omega | (simp; done) | (simp; omega) | (simp_all; done) | (simp_all; omega)), S3.nil⟩
  · skip
    refine J.head (.bool true) (congrArg Value.bool (by rw [fk1]; rfl)) ?_
    refine J.run 31 K24_38 [(2, .bool false)] w2 (by kernel_rfl) ?_
    refine J.ret Try.f24 [.bool false] Try.func24 ⟨by kernel_rfl, trivial⟩ ?_
    refine hR _ _ ?_
    exact ⟨congrArg Value.bool (by unfold validB; first | omega | (simp; done) | (simp; omega) | (simp_all; done) | (simp_all; omega)), S2.nil⟩

theorem hb33 : HasBody Try.prog 33 := fun _ _ => by kernel_rfl
noncomputable def K33_0 : List Item := adv 7 [] (bodyOf Try.f33)
noncomputable def K33_1 : List Item := adv 3 [] (popK K33_0)
set_option maxRecDepth 20000 in
set_option maxHeartbeats 20000000 in
theorem notword_any (n : Int) (w : World) : Ret Try.prog 33 #[.int .i64 n] w (fun v w' => v = .bool (!wordB n) ∧ Sep w [] w') := by
  have S0 := Sep.refl w
  refine Ret.named fun R hR => ?_
  refine Ret.of_J (N := 6) [(0, .int .i64 n)] Try.func33 rfl rfl (Nat.le_of_ble_eq_true (by kernel_rfl)) (by kernel_rfl) ?_
  refine J.run 7 K33_0 [(3, .int .i64 n)] w (by kernel_rfl) ?_
  refine J.callF 4 28 #[.int .i64 n] hb28 (by kernel_rfl) (word_any n _) ?_
  rintro _ w1 ⟨rfl, T1⟩
  have S1 : Sep w [] w1 := S0.trans T1
  clear T1
  refine J.run 3 K33_1 [(2, .bool (!(wordB n)))] w1 (by kernel_rfl) ?_
  refine J.ret Try.f33 [.bool (!(wordB n))] Try.func33 ⟨by kernel_rfl, trivial⟩ ?_
  refine hR _ _ ?_
  exact ⟨rfl, S1.nil⟩

theorem hb34 : HasBody Try.prog 34 := fun _ _ => by kernel_rfl
noncomputable def K34_0 : List Item := adv 13 [] (bodyOf Try.f34)
noncomputable def K34_1 : List Item := adv 5 [] K34_0
noncomputable def K34_2 : List Item := adv 14 [true] K34_1
noncomputable def K34_3 : List Item := adv 1 [] (popK (popK (popK K34_2)))
noncomputable def K34_4 : List Item := adv 5 [false] K34_3
noncomputable def K34_5 : List Item := adv 6 [true] K34_3
noncomputable def K34_6 : List Item := adv 6 [false] K34_1
set_option maxRecDepth 20000 in
set_option maxHeartbeats 20000000 in
theorem indexNotword (la : Option Addr) (len cap : Nat) (l : List Int) (w : World) (hI : Ints w la len l) (hlen : len ≤ 9223372036854775807) : Ret Try.prog 34 #[.slice la len cap, .func (.func 33) #[] #[]] w (fun v w' => v = .int .i64 (indexF (fun x => !wordB x) l) ∧ Sep w [] w') := by
  have S0 := Sep.refl w
  refine Ret.named fun R hR => ?_
  refine Ret.of_J (N := 19) [(0, .slice la len cap), (1, .func (.func 33) #[] #[])] Try.func34 rfl rfl (Nat.le_of_ble_eq_true (by kernel_rfl)) (by kernel_rfl) ?_
  refine J.run 13 K34_0 [(8, .int .i64 0), (7, .int .i64 (len : Int)), (0, .slice la len cap), (1, .func (.func 33) #[] #[])] w (by kernel_rfl) ?_
  have L34_1 : ∀ (m : Nat) (i : Int) (w1 : World), (0 ≤ i) → (i ≤ (len : Int)) → (∀ j, j < (i).toNat → (!wordB (l.getD j 0)) = false) → Sep w [] w1 → ((len : Int) - i).toNat = m → J Try.prog 34 19 R K34_0 [(8, .int .i64 i), (7, .int .i64 (len : Int)), (0, .slice la len cap), (1, .func (.func 33) #[] #[])] w1 := by
    intro m
    induction m using Nat.strongRecOn with
    | _ m ih1 =>
    intro i w1 h0 h1 hq S1 hm1
    refine J.run 5 K34_1 [(9, .bool (decide (i < (len : Int)))), (8, .int .i64 i), (7, .int .i64 (len : Int)), (0, .slice la len cap), (1, .func (.func 33) #[] #[])] w1 (by kernel_rfl) ?_
    by_cases fk1 : i < (len : Int)
    · skip
      refine J.head (.bool true) (congrArg Value.bool (decide_eq_true fk1)) ?_
      refine J.run 14 K34_2 [(13, .int .i64 i), (12, .slice la len cap), (11, .func (.func 33) #[] #[]), (5, .int .i64 i), (8, .int .i64 i), (7, .int .i64 (len : Int)), (0, .slice la len cap), (1, .func (.func 33) #[] #[])] w1 (by kernel_rfl) ?_
      obtain ⟨p1, hp1, hc1⟩ := hI.at 0 (i).toNat (by omega)
      refine J.ok (OK.index 14 25 1 la p1 len (i).toNat i (p1.add (i).toNat) (by kernel_rfl) (by kernel_rfl) hp1 (by omega) (by omega) (by rw [Nat.mul_one])) ?_
      refine J.ok (OK.ldCell 15 3 (p1.add (i).toNat) (.int .i64 (l.getD (i).toNat 0)) (by kernel_rfl) (by kernel_rfl) (S1.cell hc1)) ?_
      refine J.callF 16 33 #[.int .i64 (l.getD (i).toNat 0)] hb33 (by kernel_rfl) (notword_any (l.getD (i).toNat 0) _) ?_
      rintro _ w2 ⟨rfl, T1⟩
      have S2 : Sep w [] w2 := S1.trans T1
      clear T1 S1
      refine J.run 1 K34_3 [(16, .bool (!(wordB (l.getD (i).toNat 0)))), (5, .int .i64 i), (8, .int .i64 i), (7, .int .i64 (len : Int)), (0, .slice la len cap), (1, .func (.func 33) #[] #[])] w2 (by kernel_rfl) ?_
      rcases Bool.eq_false_or_eq_true (wordB (l.getD (i).toNat 0)) with fk2 | fk2
      · skip
        refine J.head (.bool false) (congrArg Value.bool (by rw [fk2]; rfl)) ?_
        refine J.run 5 K34_4 [(18, .int .i64 (IntKind.wrap .i64 (i + 1))), (7, .int .i64 (len : Int)), (0, .slice la len cap), (1, .func (.func 33) #[] #[])] w2 (by kernel_rfl) ?_
        refine J.head (.int .i64 (i + 1)) (congrArg (Value.int .i64) (IntWalk.i64_in _ (by omega))) ?_
        refine J.run 3 K34_0 [(8, .int .i64 (i + 1)), (7, .int .i64 (len : Int)), (0, .slice la len cap), (1, .func (.func 33) #[] #[])] w2 (by kernel_rfl) ?_
        refine J.run 0 K34_0 [(8, .int .i64 (i + 1)), (7, .int .i64 (len : Int)), (0, .slice la len cap), (1, .func (.func 33) #[] #[])] w2 (by kernel_rfl) ?_
        exact ih1 _ (show ((len : Int) - (i + 1)).toNat < m from by omega) (i + 1) w2 (by omega) (by omega) (by intro j hj; by_cases e : j = i.toNat; (subst e; simpa using fk2); exact hq j (by omega)) S2 rfl
      · skip
        refine J.head (.bool true) (congrArg Value.bool (by rw [fk2]; rfl)) ?_
        refine J.run 6 K34_5 [(4, .int .i64 i)] w2 (by kernel_rfl) ?_
        refine J.ret Try.f34 [.int .i64 i] Try.func34 ⟨by kernel_rfl, trivial⟩ ?_
        refine hR _ _ ?_
        exact ⟨by rw [tup_one, indexF_some i.toNat (by have := hI.len_eq; omega) hq (by simpa using fk2), Int.toNat_of_nonneg h0], S2.nil⟩
    · skip
      refine J.head (.bool false) (congrArg Value.bool (decide_eq_false fk1)) ?_
      refine J.run 6 K34_6 [(4, .int .i64 (-1))] w1 (by kernel_rfl) ?_
      refine J.ret Try.f34 [.int .i64 (-1)] Try.func34 ⟨by kernel_rfl, trivial⟩ ?_
      refine hR _ _ ?_
      exact ⟨by rw [tup_one, indexF_none fun j hj => hq j (by have := hI.len_eq; omega)], S1.nil⟩
  exact L34_1 _ 0 w (by omega) (by omega) (by intro j hj; simp at hj) S0 rfl

theorem hb32 : HasBody Try.prog 32 := fun _ _ => by kernel_rfl
noncomputable def K32_0 : List Item := adv 8 [] (bodyOf Try.f32)
noncomputable def K32_1 : List Item := adv 3 [] (popK K32_0)
set_option maxRecDepth 20000 in
set_option maxHeartbeats 20000000 in
theorem containsNotword (la : Option Addr) (len cap : Nat) (l : List Int) (w : World) (hI : Ints w la len l) (hlen : len ≤ 9223372036854775807) : Ret Try.prog 32 #[.slice la len cap, .func (.func 33) #[] #[]] w (fun v w' => v = .bool (l.any fun x => !wordB x) ∧ Sep w [] w') := by
  have S0 := Sep.refl w
  refine Ret.named fun R hR => ?_
  refine Ret.of_J (N := 9) [(0, .slice la len cap), (1, .func (.func 33) #[] #[])] Try.func32 rfl rfl (Nat.le_of_ble_eq_true (by kernel_rfl)) (by kernel_rfl) ?_
  refine J.run 8 K32_0 [(6, .func (.func 33) #[] #[]), (5, .slice la len cap)] w (by kernel_rfl) ?_
  refine J.callF 7 34 #[.slice la len cap, .func (.func 33) #[] #[]] hb34 (by kernel_rfl) (indexNotword la len cap l _ (hI.sep S0) (by omega)) ?_
  rintro _ w1 ⟨rfl, T1⟩
  have S1 : Sep w [] w1 := S0.trans T1
  clear T1
  refine J.run 3 K32_1 [(4, .bool (decide ((indexF (fun x => !wordB x) l) ≥ 0)))] w1 (by kernel_rfl) ?_
  refine J.ret Try.f32 [.bool (decide ((indexF (fun x => !wordB x) l) ≥ 0))] Try.func32 ⟨by kernel_rfl, trivial⟩ ?_
  refine hR _ _ ?_
  exact ⟨congrArg Value.bool (by first | exact indexF_nonneg), S1.nil⟩

theorem any_not_all (l : List Int) : (l.any fun x => !wordB x) = !l.all wordB := by rw [← List.not_all_eq_any_not]
theorem hb25 : HasBody Try.prog 25 := fun _ _ => by kernel_rfl
noncomputable def K25_0 : List Item := adv 10 [] (bodyOf Try.f25)
noncomputable def K25_1 : List Item := adv 5 [] K25_0
noncomputable def K25_2 : List Item := adv 1 [] K25_1
noncomputable def K25_3 : List Item := adv 4 [] (popK K25_2)
noncomputable def K25_4 : List Item := adv 6 [] K25_1
noncomputable def K25_5 : List Item := adv 11 [] K25_0
set_option maxRecDepth 20000 in
set_option maxHeartbeats 20000000 in
theorem parts_any (la : Option Addr) (len cap : Nat) (l : List Int) (w : World) (hI : Ints w la len l) (hlen : len ≤ 9223372036854775807) : Ret Try.prog 25 #[.slice la len cap] w (fun v w' => v = .bool (partsB l) ∧ Sep w [] w') := by
  have S0 := Sep.refl w
  refine Ret.named fun R hR => ?_
  refine Ret.of_J (N := 16) [(0, .slice la len cap)] Try.func25 rfl rfl (Nat.le_of_ble_eq_true (by kernel_rfl)) (by kernel_rfl) ?_
  refine J.run 10 K25_0 [(6, .bool (decide ((len : Int) ≥ 1))), (0, .slice la len cap)] w (by kernel_rfl) ?_
  by_cases fk1 : (len : Int) ≥ 1
  · skip
    refine J.head (.bool true) (congrArg Value.bool (decide_eq_true fk1)) ?_
    refine J.run 5 K25_1 [(11, .bool (decide ((len : Int) ≤ 16))), (0, .slice la len cap)] w (by kernel_rfl) ?_
    by_cases fk2 : (len : Int) ≤ 16
    · skip
      refine J.head (.bool true) (congrArg Value.bool (decide_eq_true fk2)) ?_
      refine J.run 1 K25_2 [(12, .slice la len cap), (11, .bool true)] w (by kernel_rfl) ?_
      refine J.callF 13 32 #[.slice la len cap, .func (.func 33) #[] #[]] hb32 (by kernel_rfl) (containsNotword la len cap l _ (hI.sep S0) (by omega)) ?_
      rintro _ w1 ⟨rfl, T1⟩
      have S1 : Sep w [] w1 := S0.trans T1
      clear T1
      refine J.run 4 K25_3 [(2, .bool (!(List.any l fun x => !wordB x)))] w1 (by kernel_rfl) ?_
      refine J.ret Try.f25 [.bool (!(List.any l fun x => !wordB x))] Try.func25 ⟨by kernel_rfl, trivial⟩ ?_
      refine hR _ _ ?_
      exact ⟨congrArg Value.bool (by have hle := hI.len_eq; first | (simp [partsB, any_not_all, hle]; intros; omega) | (have : 1 ≤ l.length := by omega; have : l.length ≤ 16 := by omega; simp [partsB, any_not_all, *]; done)), S1.nil⟩
    · skip
      refine J.head (.bool false) (congrArg Value.bool (decide_eq_false fk2)) ?_
      refine J.run 6 K25_4 [(2, .bool false)] w (by kernel_rfl) ?_
      refine J.ret Try.f25 [.bool false] Try.func25 ⟨by kernel_rfl, trivial⟩ ?_
      refine hR _ _ ?_
      exact ⟨congrArg Value.bool (by have hle := hI.len_eq; first | (simp [partsB, any_not_all, hle]; intros; omega) | (have : 1 ≤ l.length := by omega; have : l.length ≤ 16 := by omega; simp [partsB, any_not_all, *]; done)), S0.nil⟩
  · skip
    refine J.head (.bool false) (congrArg Value.bool (decide_eq_false fk1)) ?_
    refine J.run 11 K25_5 [(2, .bool false)] w (by kernel_rfl) ?_
    refine J.ret Try.f25 [.bool false] Try.func25 ⟨by kernel_rfl, trivial⟩ ?_
    refine hR _ _ ?_
    exact ⟨congrArg Value.bool (by have hle := hI.len_eq; first | (simp [partsB, any_not_all, hle]; intros; omega) | (have : 1 ≤ l.length := by omega; have : l.length ≤ 16 := by omega; simp [partsB, any_not_all, *]; done)), S0.nil⟩

theorem parts_word {l : List Int} (h : partsB l = true) {j : Nat} (hj : j < l.length) : 0 ≤ l.getD j 0 ∧ l.getD j 0 ≤ 65535 := by
  simp only [partsB, Bool.and_eq_true] at h
  exact wordB_iff.1 (all_getD h.2 hj)
theorem ans_step {q : Int} {l : List Int} {i : Int} {len : Nat} (hle : l.length = len) (h0 : 0 ≤ i) (h1 : i < (len : Int)) : (5 * ansF q (l.take i.toNat) + l.getD i.toNat 0 + 1) % 65536 = ansF q (l.take (i + 1).toNat) := by
  rw [show (i + 1).toNat = i.toNat + 1 by omega, ansF_snoc q l i.toNat (by omega)]
/-- what Answer gives -/
def ansV (n : Int) (l : List Int) : Value :=
  if partsB l = false then .tuple #[.int .i64 0, .int .i64 1] else if questionB n = false then .tuple #[.int .i64 0, .int .i64 2] else .tuple #[.int .i64 (ansF n l), .int .i64 0]
theorem ans_end {n a i : Int} {l : List Int} {len : Nat} (hle : l.length = len) (h : ¬ i < (len : Int)) (hi : i ≤ len) (ha : a = ansF n (l.take i.toNat)) : a = ansF n l := by
  rw [ha, List.take_of_length_le (by omega)]
theorem hb10 : HasBody Try.prog 10 := fun _ _ => by kernel_rfl
noncomputable def K10_0 : List Item := adv 9 [] (bodyOf Try.f10)
noncomputable def K10_1 : List Item := adv 2 [] (popK K10_0)
noncomputable def K10_2 : List Item := adv 6 [false] K10_1
noncomputable def K10_3 : List Item := adv 2 [] (popK K10_2)
noncomputable def K10_4 : List Item := adv 16 [false] K10_3
noncomputable def K10_5 : List Item := adv 5 [] K10_4
noncomputable def K10_6 : List Item := adv 6 [true] K10_5
noncomputable def K10_7 : List Item := adv 5 [] (popK (popK K10_6))
noncomputable def K10_8 : List Item := adv 2 [] K10_7
noncomputable def K10_9 : List Item := adv 1 [] K10_8
noncomputable def K10_10 : List Item := adv 1 [] K10_9
noncomputable def K10_11 : List Item := adv 5 [] K10_10
noncomputable def K10_12 : List Item := adv 8 [false] K10_5
noncomputable def K10_13 : List Item := adv 6 [true] K10_3
noncomputable def K10_14 : List Item := adv 6 [true] K10_1
set_option maxRecDepth 20000 in
set_option maxHeartbeats 20000000 in
theorem answer_any (n : Int) (la : Option Addr) (len cap : Nat) (l : List Int) (w : World) (hI : Ints w la len l) (hlen : len ≤ 9223372036854775807) : Ret Try.prog 10 #[.int .i64 n, .slice la len cap] w (fun v w' => v = ansV n l ∧ Sep w [] w') := by
  have S0 := Sep.refl w
  refine Ret.named fun R hR => ?_
  refine Ret.of_J (N := 30) [(0, .int .i64 n), (1, .slice la len cap)] Try.func10 rfl rfl (Nat.le_of_ble_eq_true (by kernel_rfl)) (by kernel_rfl) ?_
  refine J.run 9 K10_0 [(9, .slice la len cap), (0, .int .i64 n), (1, .slice la len cap)] w (by kernel_rfl) ?_
  refine J.callF 10 25 #[.slice la len cap] hb25 (by kernel_rfl) (parts_any la len cap l _ (hI.sep S0) (by omega)) ?_
  rintro _ w1 ⟨rfl, T1⟩
  have S1 : Sep w [] w1 := S0.trans T1
  clear T1
  refine J.run 2 K10_1 [(11, .bool (!(partsB l))), (0, .int .i64 n), (1, .slice la len cap)] w1 (by kernel_rfl) ?_
  rcases Bool.eq_false_or_eq_true (partsB l) with fk1 | fk1
  · skip
    refine J.head (.bool false) (congrArg Value.bool (by rw [fk1]; rfl)) ?_
    refine J.run 6 K10_2 [(12, .int .i64 n), (0, .int .i64 n), (1, .slice la len cap)] w1 (by kernel_rfl) ?_
    refine J.callF 13 26 #[.int .i64 n] hb26 (by kernel_rfl) (question_any n _) ?_
    rintro _ w2 ⟨rfl, T2⟩
    have S2 : Sep w [] w2 := S1.trans T2
    clear T2 S1
    refine J.run 2 K10_3 [(14, .bool (!(questionB n))), (0, .int .i64 n), (1, .slice la len cap)] w2 (by kernel_rfl) ?_
    rcases Bool.eq_false_or_eq_true (questionB n) with fk2 | fk2
    · skip
      refine J.head (.bool false) (congrArg Value.bool (by rw [fk2]; rfl)) ?_
      refine J.run 16 K10_4 [(18, .int .i64 0), (17, .int .i64 (len : Int)), (16, .slice la len cap), (6, .int .i64 n)] w2 (by kernel_rfl) ?_
      have L10_1 : ∀ (m : Nat) (a : Int) (i : Int) (w3 : World), (0 ≤ i) → (i ≤ (len : Int)) → (a = ansF n (l.take (i).toNat)) → Sep w [] w3 → ((len : Int) - i).toNat = m → J Try.prog 10 30 R K10_4 [(18, .int .i64 i), (17, .int .i64 (len : Int)), (16, .slice la len cap), (6, .int .i64 a)] w3 := by
        intro m
        induction m using Nat.strongRecOn with
        | _ m ih1 =>
        intro a i w3 h0 h1 ha S3 hm1
        have hp : i < (len : Int) → 0 ≤ l.getD i.toNat 0 ∧ l.getD i.toNat 0 ≤ 65535 := fun h => parts_word fk1 (by have := hI.len_eq; omega)
        have hb : 0 ≤ a ∧ a ≤ 65535 := by rw [ha]; exact ansF_bounds (by have := questionB_iff.1 fk2; omega) _
        refine J.run 5 K10_5 [(19, .bool (decide (i < (len : Int)))), (18, .int .i64 i), (17, .int .i64 (len : Int)), (16, .slice la len cap), (6, .int .i64 a)] w3 (by kernel_rfl) ?_
        by_cases fk3 : i < (len : Int)
        · skip
          refine J.head (.bool true) (congrArg Value.bool (decide_eq_true fk3)) ?_
          refine J.run 6 K10_6 [(18, .int .i64 i), (17, .int .i64 (len : Int)), (16, .slice la len cap), (6, .int .i64 a)] w3 (by kernel_rfl) ?_
          obtain ⟨p1, hp1, hc1⟩ := hI.at 0 (i).toNat (by omega)
          refine J.ok (OK.index 20 25 1 la p1 len (i).toNat i (p1.add (i).toNat) (by kernel_rfl) (by kernel_rfl) hp1 (by omega) (by omega) (by rw [Nat.mul_one])) ?_
          refine J.ok (OK.ldCell 21 3 (p1.add (i).toNat) (.int .i64 (l.getD (i).toNat 0)) (by kernel_rfl) (by kernel_rfl) (S3.cell hc1)) ?_
          refine J.run 5 K10_7 [(23, .int .i64 (IntKind.wrap .i64 (5 * a))), (8, .int .i64 (l.getD (i).toNat 0)), (18, .int .i64 i), (17, .int .i64 (len : Int)), (16, .slice la len cap)] w3 (by kernel_rfl) ?_
          refine J.head (.int .i64 (5 * a)) (congrArg (Value.int .i64) (IntWalk.i64_in _ (by omega))) ?_
          refine J.run 2 K10_8 [(25, .int .i64 (IntKind.wrap .i64 ((5 * a) + (l.getD (i).toNat 0)))), (18, .int .i64 i), (17, .int .i64 (len : Int)), (16, .slice la len cap)] w3 (by kernel_rfl) ?_
          refine J.head (.int .i64 ((5 * a) + (l.getD (i).toNat 0))) (congrArg (Value.int .i64) (IntWalk.i64_in _ (by omega))) ?_
          refine J.run 1 K10_9 [(26, .int .i64 (IntKind.wrap .i64 (((5 * a) + (l.getD (i).toNat 0)) + 1))), (18, .int .i64 i), (17, .int .i64 (len : Int)), (16, .slice la len cap)] w3 (by kernel_rfl) ?_
          refine J.head (.int .i64 (((5 * a) + (l.getD (i).toNat 0)) + 1)) (congrArg (Value.int .i64) (IntWalk.i64_in _ (by omega))) ?_
          refine J.run 1 K10_10 [(27, .int .i64 (IntKind.wrap .i64 ((BitVec.ofInt 64 (((5 * a) + (l.getD (i).toNat 0)) + 1) &&& (BitVec.ofInt 64 (65535 : Int))).toNat : Int))), (18, .int .i64 i), (17, .int .i64 (len : Int)), (16, .slice la len cap)] w3 (by kernel_rfl) ?_
          refine J.head (.int .i64 ((((5 * a) + (l.getD (i).toNat 0)) + 1) % 65536)) (congrArg (Value.int .i64) (and_mask_i64 16 _ _ (by rfl) (by decide))) ?_
          refine J.run 5 K10_11 [(28, .int .i64 (IntKind.wrap .i64 (i + 1))), (6, .int .i64 ((((5 * a) + (l.getD (i).toNat 0)) + 1) % 65536)), (17, .int .i64 (len : Int)), (16, .slice la len cap)] w3 (by kernel_rfl) ?_
          refine J.head (.int .i64 (i + 1)) (congrArg (Value.int .i64) (IntWalk.i64_in _ (by omega))) ?_
          refine J.run 3 K10_4 [(18, .int .i64 (i + 1)), (6, .int .i64 ((((5 * a) + (l.getD (i).toNat 0)) + 1) % 65536)), (17, .int .i64 (len : Int)), (16, .slice la len cap)] w3 (by kernel_rfl) ?_
          refine J.run 0 K10_4 [(18, .int .i64 (i + 1)), (17, .int .i64 (len : Int)), (16, .slice la len cap), (6, .int .i64 ((((5 * a) + (l.getD (i).toNat 0)) + 1) % 65536))] w3 (by kernel_rfl) ?_
          exact ih1 _ (show ((len : Int) - (i + 1)).toNat < m from by omega) ((((5 * a) + (l.getD (i).toNat 0)) + 1) % 65536) (i + 1) w3 (by omega) (by omega) (by rw [ha]; exact ans_step hI.len_eq h0 (by omega)) S3 rfl
        · skip
          refine J.head (.bool false) (congrArg Value.bool (decide_eq_false fk3)) ?_
          refine J.run 8 K10_12 [(5, .int .i64 0), (4, .int .i64 a)] w3 (by kernel_rfl) ?_
          refine J.ret Try.f10 [.int .i64 a, .int .i64 0] Try.func10 ⟨by kernel_rfl, by kernel_rfl, trivial⟩ ?_
          refine hR _ _ ?_
          exact ⟨by rw [ans_end hI.len_eq fk3 h1 ha]; simp [ansV, tup_two, *], S3.nil⟩
      exact L10_1 _ n 0 w2 (by omega) (by omega) (by simp [ansF]) S2 rfl
    · skip
      refine J.head (.bool true) (congrArg Value.bool (by rw [fk2]; rfl)) ?_
      refine J.run 6 K10_13 [(5, .int .i64 2), (4, .int .i64 0)] w2 (by kernel_rfl) ?_
      refine J.ret Try.f10 [.int .i64 0, .int .i64 2] Try.func10 ⟨by kernel_rfl, by kernel_rfl, trivial⟩ ?_
      refine hR _ _ ?_
      exact ⟨by simp [ansV, tup_two, *], S2.nil⟩
  · skip
    refine J.head (.bool true) (congrArg Value.bool (by rw [fk1]; rfl)) ?_
    refine J.run 6 K10_14 [(5, .int .i64 1), (4, .int .i64 0)] w1 (by kernel_rfl) ?_
    refine J.ret Try.f10 [.int .i64 0, .int .i64 1] Try.func10 ⟨by kernel_rfl, by kernel_rfl, trivial⟩ ?_
    refine hR _ _ ?_
    exact ⟨by simp [ansV, tup_two, *], S1.nil⟩

theorem hb16 : HasBody Try.prog 16 := fun _ _ => by kernel_rfl
noncomputable def K16_0 : List Item := adv 16 [] (bodyOf Try.f16)
noncomputable def K16_1 : List Item := adv 8 [] K16_0
noncomputable def K16_2 : List Item := adv 7 [true] K16_1
noncomputable def K16_3 : List Item := adv 2 [] K16_2
noncomputable def K16_4 : List Item := adv 1 [] (popK (popK K16_3))
noncomputable def K16_5 : List Item := adv 1 [] K16_4
noncomputable def K16_6 : List Item := adv 1 [] K16_5
noncomputable def K16_7 : List Item := adv 6 [] K16_6
noncomputable def K16_8 : List Item := adv 7 [false] K16_1
set_option maxRecDepth 20000 in
set_option maxHeartbeats 20000000 in
theorem ranswer_any (n : Int) (la : Option Addr) (len cap : Nat) (l : List Int) (w : World) (hI : Ints w la len l) (hlen : len ≤ 9223372036854775807) (hqq : questionB n = true) (hpp : partsB l = true) : Ret Try.prog 16 #[.int .i64 n, .slice la len cap] w (fun v w' => v = .int .i64 (ansF n l) ∧ Sep w [] w') := by
  have S0 := Sep.refl w
  refine Ret.named fun R hR => ?_
  refine Ret.of_J (N := 24) [(0, .int .i64 n), (1, .slice la len cap)] Try.func16 rfl rfl (Nat.le_of_ble_eq_true (by kernel_rfl)) (by kernel_rfl) ?_
  refine J.run 16 K16_0 [(6, .int .i64 0), (5, .int .i64 n), (1, .slice la len cap)] w (by kernel_rfl) ?_
  have L16_1 : ∀ (m : Nat) (a : Int) (i : Int) (w1 : World), (0 ≤ i) → (i ≤ (len : Int)) → (a = ansF n (l.take (i).toNat)) → Sep w [] w1 → ((len : Int) - i).toNat = m → J Try.prog 16 24 R K16_0 [(6, .int .i64 i), (5, .int .i64 a), (1, .slice la len cap)] w1 := by
    intro m
    induction m using Nat.strongRecOn with
    | _ m ih1 =>
    intro a i w1 h0 h1 ha S1 hm1
    have hp : i < (len : Int) → 0 ≤ l.getD i.toNat 0 ∧ l.getD i.toNat 0 ≤ 65535 := fun h => parts_word hpp (by have := hI.len_eq; omega)
    have hb : 0 ≤ a ∧ a ≤ 65535 := by rw [ha]; exact ansF_bounds (by have := questionB_iff.1 hqq; omega) _
    refine J.run 8 K16_1 [(11, .bool (decide (i < (len : Int)))), (6, .int .i64 i), (5, .int .i64 a), (1, .slice la len cap)] w1 (by kernel_rfl) ?_
    by_cases fk1 : i < (len : Int)
    · skip
      refine J.head (.bool true) (congrArg Value.bool (decide_eq_true fk1)) ?_
      refine J.run 7 K16_2 [(15, .int .i64 (IntKind.wrap .i64 (5 * a))), (6, .int .i64 i), (1, .slice la len cap)] w1 (by kernel_rfl) ?_
      refine J.head (.int .i64 (5 * a)) (congrArg (Value.int .i64) (IntWalk.i64_in _ (by omega))) ?_
      refine J.run 2 K16_3 [(17, .int .i64 i), (16, .slice la len cap), (15, .int .i64 (5 * a)), (6, .int .i64 i), (1, .slice la len cap)] w1 (by kernel_rfl) ?_
      obtain ⟨p1, hp1, hc1⟩ := hI.at 0 (i).toNat (by omega)
      refine J.ok (OK.index 18 25 1 la p1 len (i).toNat i (p1.add (i).toNat) (by kernel_rfl) (by kernel_rfl) hp1 (by omega) (by omega) (by rw [Nat.mul_one])) ?_
      refine J.ok (OK.ldCell 19 3 (p1.add (i).toNat) (.int .i64 (l.getD (i).toNat 0)) (by kernel_rfl) (by kernel_rfl) (S1.cell hc1)) ?_
      refine J.run 1 K16_4 [(20, .int .i64 (IntKind.wrap .i64 ((5 * a) + (l.getD (i).toNat 0)))), (6, .int .i64 i), (1, .slice la len cap)] w1 (by kernel_rfl) ?_
      refine J.head (.int .i64 ((5 * a) + (l.getD (i).toNat 0))) (congrArg (Value.int .i64) (IntWalk.i64_in _ (by omega))) ?_
      refine J.run 1 K16_5 [(21, .int .i64 (IntKind.wrap .i64 (((5 * a) + (l.getD (i).toNat 0)) + 1))), (6, .int .i64 i), (1, .slice la len cap)] w1 (by kernel_rfl) ?_
      refine J.head (.int .i64 (((5 * a) + (l.getD (i).toNat 0)) + 1)) (congrArg (Value.int .i64) (IntWalk.i64_in _ (by omega))) ?_
      refine J.run 1 K16_6 [(22, .int .i64 (Int.tmod (((5 * a) + (l.getD (i).toNat 0)) + 1) 65536)), (6, .int .i64 i), (1, .slice la len cap)] w1 (by kernel_rfl) ?_
      refine J.head (.int .i64 ((((5 * a) + (l.getD (i).toNat 0)) + 1) % 65536)) (congrArg (Value.int .i64) (IntWalk.rem_in _ _ (by omega))) ?_
      refine J.run 6 K16_7 [(13, .int .i64 (IntKind.wrap .i64 (i + 1))), (5, .int .i64 ((((5 * a) + (l.getD (i).toNat 0)) + 1) % 65536)), (1, .slice la len cap)] w1 (by kernel_rfl) ?_
      refine J.head (.int .i64 (i + 1)) (congrArg (Value.int .i64) (IntWalk.i64_in _ (by omega))) ?_
      refine J.run 3 K16_0 [(6, .int .i64 (i + 1)), (5, .int .i64 ((((5 * a) + (l.getD (i).toNat 0)) + 1) % 65536)), (1, .slice la len cap)] w1 (by kernel_rfl) ?_
      refine J.run 0 K16_0 [(6, .int .i64 (i + 1)), (5, .int .i64 ((((5 * a) + (l.getD (i).toNat 0)) + 1) % 65536)), (1, .slice la len cap)] w1 (by kernel_rfl) ?_
      exact ih1 _ (show ((len : Int) - (i + 1)).toNat < m from by omega) ((((5 * a) + (l.getD (i).toNat 0)) + 1) % 65536) (i + 1) w1 (by omega) (by omega) (by rw [ha]; exact ans_step hI.len_eq h0 (by omega)) S1 rfl
    · skip
      refine J.head (.bool false) (congrArg Value.bool (decide_eq_false fk1)) ?_
      refine J.run 7 K16_8 [(4, .int .i64 a)] w1 (by kernel_rfl) ?_
      refine J.ret Try.f16 [.int .i64 a] Try.func16 ⟨by kernel_rfl, trivial⟩ ?_
      refine hR _ _ ?_
      exact ⟨by rw [ans_end hI.len_eq fk1 h1 ha]; rfl, S1.nil⟩
  exact L16_1 _ n 0 w (by omega) (by omega) (by simp [ansF]) S0 rfl

theorem partsB_bad {l : List Int} {len : Nat} {i : Int} (hle : l.length = len) (h0 : 0 ≤ i) (hi : i < (len : Int)) (h : l.getD i.toNat 0 < 0 ∨ 65535 < l.getD i.toNat 0) : partsB l = false := by
  cases hp : partsB l with
  | false => rfl
  | true => have := parts_word hp (j := i.toNat) (by omega); omega
theorem all_of_getD {l : List Int} {q : Int → Bool} (h : ∀ j, j < l.length → q (l.getD j 0) = true) : l.all q = true := by
  rw [List.all_eq_true]
  intro x hx
  obtain ⟨j, hj, rfl⟩ := List.mem_iff_getElem.1 hx
  have := h j hj
  simpa [List.getD, hj] using this
theorem partsB_end {l : List Int} {len : Nat} {i : Int} {b : Bool} (hle : l.length = len) (hg : ∀ j, j < i.toNat → wordB (l.getD j 0) = true) (hi : (len : Int) ≤ i) (hb : b = (decide (1 ≤ (len : Int)) && decide ((len : Int) ≤ 16))) : partsB l = b := by
  unfold partsB
  rw [all_of_getD fun j hj => hg j (by omega), hle, hb, Bool.and_true, decide_eq_decide.2 (show 1 ≤ len ↔ 1 ≤ (len : Int) by omega), decide_eq_decide.2 (show len ≤ 16 ↔ (len : Int) ≤ 16 by omega)]
theorem hb15 : HasBody Try.prog 15 := fun _ _ => by kernel_rfl
noncomputable def K15_0 : List Item := adv 11 [] (bodyOf Try.f15)
noncomputable def K15_1 : List Item := adv 8 [] K15_0
noncomputable def K15_2 : List Item := adv 8 [true] K15_1
noncomputable def K15_3 : List Item := adv 2 [] (popK (popK K15_2))
noncomputable def K15_4 : List Item := adv 12 [true] K15_3
noncomputable def K15_5 : List Item := adv 2 [] K15_3
noncomputable def K15_6 : List Item := adv 3 [] (popK (popK K15_5))
noncomputable def K15_7 : List Item := adv 5 [true] K15_6
noncomputable def K15_8 : List Item := adv 6 [false] K15_6
noncomputable def K15_9 : List Item := adv 8 [false] K15_1
noncomputable def K15_10 : List Item := adv 6 [] K15_9
noncomputable def K15_11 : List Item := adv 6 [] K15_9
set_option maxRecDepth 20000 in
set_option maxHeartbeats 20000000 in
theorem good_any (la : Option Addr) (len cap : Nat) (l : List Int) (w : World) (hI : Ints w la len l) (hlen : len ≤ 9223372036854775807) : Ret Try.prog 15 #[.slice la len cap] w (fun v w' => v = .bool (partsB l) ∧ Sep w [] w') := by
  have S0 := Sep.refl w
  refine Ret.named fun R hR => ?_
  refine Ret.of_J (N := 30) [(0, .slice la len cap)] Try.func15 rfl rfl (Nat.le_of_ble_eq_true (by kernel_rfl)) (by kernel_rfl) ?_
  refine J.run 11 K15_0 [(3, .int .i64 0), (0, .slice la len cap)] w (by kernel_rfl) ?_
  have L15_1 : ∀ (m : Nat) (i : Int) (w1 : World), (0 ≤ i) → (i ≤ (len : Int)) → (∀ j, j < (i).toNat → wordB (l.getD j 0) = true) → Sep w [] w1 → ((len : Int) - i).toNat = m → J Try.prog 15 30 R K15_0 [(3, .int .i64 i), (0, .slice la len cap)] w1 := by
    intro m
    induction m using Nat.strongRecOn with
    | _ m ih1 =>
    intro i w1 h0 h1 hg S1 hm1
    refine J.run 8 K15_1 [(7, .bool (decide (i < (len : Int)))), (3, .int .i64 i), (0, .slice la len cap)] w1 (by kernel_rfl) ?_
    by_cases fk1 : i < (len : Int)
    · skip
      refine J.head (.bool true) (congrArg Value.bool (decide_eq_true fk1)) ?_
      refine J.run 8 K15_2 [(11, .int .i64 i), (10, .slice la len cap), (3, .int .i64 i), (0, .slice la len cap)] w1 (by kernel_rfl) ?_
      obtain ⟨p1, hp1, hc1⟩ := hI.at 0 (i).toNat (by omega)
      refine J.ok (OK.index 12 25 1 la p1 len (i).toNat i (p1.add (i).toNat) (by kernel_rfl) (by kernel_rfl) hp1 (by omega) (by omega) (by rw [Nat.mul_one])) ?_
      refine J.ok (OK.ldCell 13 3 (p1.add (i).toNat) (.int .i64 (l.getD (i).toNat 0)) (by kernel_rfl) (by kernel_rfl) (S1.cell hc1)) ?_
      refine J.run 2 K15_3 [(15, .bool (decide ((l.getD (i).toNat 0) < 0))), (3, .int .i64 i), (0, .slice la len cap)] w1 (by kernel_rfl) ?_
      by_cases fk2 : (l.getD (i).toNat 0) < 0
      · skip
        refine J.head (.bool true) (congrArg Value.bool (decide_eq_true fk2)) ?_
        refine J.run 12 K15_4 [(2, .bool false)] w1 (by kernel_rfl) ?_
        refine J.ret Try.f15 [.bool false] Try.func15 ⟨by kernel_rfl, trivial⟩ ?_
        refine hR _ _ ?_
        exact ⟨congrArg Value.bool (partsB_bad hI.len_eq h0 fk1 (by omega)).symm, S1.nil⟩
      · skip
        refine J.head (.bool false) (congrArg Value.bool (decide_eq_false fk2)) ?_
        refine J.run 2 K15_5 [(17, .int .i64 i), (16, .slice la len cap), (15, .bool false), (3, .int .i64 i), (0, .slice la len cap)] w1 (by kernel_rfl) ?_
        refine J.ok (OK.index 18 25 1 la p1 len (i).toNat i (p1.add (i).toNat) (by kernel_rfl) (by kernel_rfl) hp1 (by omega) (by omega) (by rw [Nat.mul_one])) ?_
        refine J.ok (OK.ldCell 19 3 (p1.add (i).toNat) (.int .i64 (l.getD (i).toNat 0)) (by kernel_rfl) (by kernel_rfl) (S1.cell hc1)) ?_
        refine J.run 3 K15_6 [(21, .bool (decide ((l.getD (i).toNat 0) > 65535))), (3, .int .i64 i), (0, .slice la len cap)] w1 (by kernel_rfl) ?_
        by_cases fk3 : (l.getD (i).toNat 0) > 65535
        · skip
          refine J.head (.bool true) (congrArg Value.bool (decide_eq_true fk3)) ?_
          refine J.run 5 K15_7 [(2, .bool false)] w1 (by kernel_rfl) ?_
          refine J.ret Try.f15 [.bool false] Try.func15 ⟨by kernel_rfl, trivial⟩ ?_
          refine hR _ _ ?_
          exact ⟨congrArg Value.bool (partsB_bad hI.len_eq h0 fk1 (by omega)).symm, S1.nil⟩
        · skip
          refine J.head (.bool false) (congrArg Value.bool (decide_eq_false fk3)) ?_
          refine J.run 6 K15_8 [(9, .int .i64 (IntKind.wrap .i64 (i + 1))), (0, .slice la len cap)] w1 (by kernel_rfl) ?_
          refine J.head (.int .i64 (i + 1)) (congrArg (Value.int .i64) (IntWalk.i64_in _ (by omega))) ?_
          refine J.run 3 K15_0 [(3, .int .i64 (i + 1)), (0, .slice la len cap)] w1 (by kernel_rfl) ?_
          refine J.run 0 K15_0 [(3, .int .i64 (i + 1)), (0, .slice la len cap)] w1 (by kernel_rfl) ?_
          exact ih1 _ (show ((len : Int) - (i + 1)).toNat < m from by omega) (i + 1) w1 (by omega) (by omega) (by intro j hj; by_cases e : j = i.toNat; (subst e; exact wordB_iff.2 (by omega)); exact hg j (by omega)) S1 rfl
    · skip
      refine J.head (.bool false) (congrArg Value.bool (decide_eq_false fk1)) ?_
      refine J.run 8 K15_9 [(25, .bool (decide ((len : Int) ≥ 1))), (0, .slice la len cap)] w1 (by kernel_rfl) ?_
      by_cases fk4 : (len : Int) ≥ 1
      · skip
        refine J.head (.bool true) (congrArg Value.bool (decide_eq_true fk4)) ?_
        refine J.run 6 K15_10 [(2, .bool (decide ((len : Int) ≤ 16)))] w1 (by kernel_rfl) ?_
        refine J.ret Try.f15 [.bool (decide ((len : Int) ≤ 16))] Try.func15 ⟨by kernel_rfl, trivial⟩ ?_
        refine hR _ _ ?_
        exact ⟨congrArg Value.bool (partsB_end hI.len_eq (hg := hg) (by omega) (by first | rfl | (simp; omega))).symm, S1.nil⟩
      · skip
        refine J.head (.bool false) (congrArg Value.bool (decide_eq_false fk4)) ?_
        refine J.run 6 K15_11 [(2, .bool false)] w1 (by kernel_rfl) ?_
        refine J.ret Try.f15 [.bool false] Try.func15 ⟨by kernel_rfl, trivial⟩ ?_
        refine hR _ _ ?_
        exact ⟨congrArg Value.bool (partsB_end hI.len_eq (hg := hg) (by omega) (by first | rfl | (simp; omega))).symm, S1.nil⟩
  exact L15_1 _ 0 w (by omega) (by omega) (by intro j hj; simp at hj) S0 rfl

/-- the errors behind an answer -/
def endE (e : Int) (r : Bool) : Int := if r then max (e - 1) 0 else min (e + 2) 7
def nextV (n : Int) : Value := if questionB n = false then .int .i64 0 else .int .i64 (nextF n)
def zeroQ : Value := .agg #[.int .i64 0, .int .i64 0, .int .i64 0, .bool false, .bool false]
def newV (n : Int) : Value := if questionB n = false then .tuple #[zeroQ, .int .i64 2] else .tuple #[.agg #[.int .i64 n, .int .i64 0, .int .i64 0, .bool false, .bool false], .int .i64 0]
def askV (q a e : Int) (o f : Bool) (now : Int) : Value :=
  if validB q a e o f = false then .tuple #[zeroQ, .int .i64 0, .int .i64 1] else if instantB now = false then .tuple #[zeroQ, .int .i64 0, .int .i64 2] else
  if o = true then .tuple #[zeroQ, .int .i64 0, .int .i64 6] else if f = true then .tuple #[zeroQ, .int .i64 0, .int .i64 6] else
  .tuple #[.agg #[.int .i64 (nextF q), .int .i64 now, .int .i64 e, .bool true, .bool false], .int .i64 (nextF q), .int .i64 0]
def tickV (q a e : Int) (o f : Bool) (now : Int) : Value :=
  if validB q a e o f = false then .tuple #[zeroQ, .int .i64 1] else if instantB now = false then .tuple #[zeroQ, .int .i64 2] else
  if o = false then .tuple #[.agg #[.int .i64 q, .int .i64 a, .int .i64 e, .bool false, .bool f], .int .i64 0] else
  if now < a then .tuple #[zeroQ, .int .i64 16] else if 20000 < now - a then .tuple #[.agg #[.int .i64 q, .int .i64 0, .int .i64 (endE e false), .bool false, .bool (endE e false == 7)], .int .i64 0] else
  .tuple #[.agg #[.int .i64 q, .int .i64 a, .int .i64 e, .bool true, .bool f], .int .i64 0]
/-- is the answer right, and in time? -/
def replyR (q a now answer : Int) (l : List Int) : Bool := (ansF q l == answer) && decide (10000 ≤ now - a) && decide (now - a ≤ 20000)
def replyV (q a e : Int) (o f : Bool) (now answer : Int) (l : List Int) : Value :=
  if validB q a e o f = false then .tuple #[zeroQ, .int .i64 1] else if partsB l = false then .tuple #[zeroQ, .int .i64 1] else if instantB now = false then .tuple #[zeroQ, .int .i64 2] else
  if wordB answer = false then .tuple #[zeroQ, .int .i64 2] else if o = false then .tuple #[zeroQ, .int .i64 6] else if now < a then .tuple #[zeroQ, .int .i64 16] else
  .tuple #[.agg #[.int .i64 q, .int .i64 0, .int .i64 (endE e (replyR q a now answer l)), .bool false, .bool (endE e (replyR q a now answer l) == 7)], .int .i64 0]
theorem hb12 : HasBody Try.prog 12 := fun _ _ => by kernel_rfl
noncomputable def K12_0 : List Item := adv 8 [] (bodyOf Try.f12)
noncomputable def K12_1 : List Item := adv 2 [] (popK K12_0)
noncomputable def K12_2 : List Item := adv 7 [false] K12_1
noncomputable def K12_3 : List Item := adv 2 [] K12_2
noncomputable def K12_4 : List Item := adv 5 [true] K12_3
noncomputable def K12_5 : List Item := adv 3 [] K12_4
noncomputable def K12_6 : List Item := adv 6 [false] K12_3
noncomputable def K12_7 : List Item := adv 2 [] K12_6
noncomputable def K12_8 : List Item := adv 5 [true] K12_1
set_option maxRecDepth 20000 in
set_option maxHeartbeats 20000000 in
theorem next_any (n : Int) (w : World) : Ret Try.prog 12 #[.int .i64 n] w (fun v w' => v = nextV n ∧ Sep w [] w') := by
  have S0 := Sep.refl w
  refine Ret.named fun R hR => ?_
  refine Ret.of_J (N := 14) [(0, .int .i64 n)] Try.func12 rfl rfl (Nat.le_of_ble_eq_true (by kernel_rfl)) (by kernel_rfl) ?_
  refine J.run 8 K12_0 [(3, .int .i64 n), (0, .int .i64 n)] w (by kernel_rfl) ?_
  refine J.callF 4 26 #[.int .i64 n] hb26 (by kernel_rfl) (question_any n _) ?_
  rintro _ w1 ⟨rfl, T1⟩
  have S1 : Sep w [] w1 := S0.trans T1
  clear T1
  refine J.run 2 K12_1 [(5, .bool (!(questionB n))), (0, .int .i64 n)] w1 (by kernel_rfl) ?_
  rcases Bool.eq_false_or_eq_true (questionB n) with fk1 | fk1
  · skip
    refine J.head (.bool false) (congrArg Value.bool (by rw [fk1]; rfl)) ?_
    have fb1 := questionB_iff.1 fk1
    refine J.run 7 K12_2 [(7, .int .i64 (IntKind.wrap .i64 ((BitVec.ofInt 64 n &&& (BitVec.ofInt 64 (1 : Int))).toNat : Int))), (0, .int .i64 n)] w1 (by kernel_rfl) ?_
    refine J.head (.int .i64 (n % 2)) (congrArg (Value.int .i64) (and_mask_i64 1 _ _ (by rfl) (by decide))) ?_
    refine J.run 2 K12_3 [(8, .bool ((n % 2) == 1)), (0, .int .i64 n)] w1 (by kernel_rfl) ?_
    by_cases fk2 : (n % 2) = 1
    · skip
      refine J.head (.bool true) (congrArg Value.bool (beq_iff_eq.2 fk2)) ?_
      refine J.run 5 K12_4 [(10, .int .i64 (Int.fdiv n (2 ^ 1)))] w1 (by kernel_rfl) ?_
      refine J.head (.int .i64 (n / 2)) (congrArg (Value.int .i64) (shr_lit _ _ (by decide))) ?_
      refine J.run 3 K12_5 [(2, .int .i64 (IntKind.wrap .i64 ((BitVec.ofInt 64 (n / 2) ^^^ (BitVec.ofInt 64 (46080 : Int))).toNat : Int)))] w1 (by kernel_rfl) ?_
      refine J.ret Try.f12 [.int .i64 (IntKind.wrap .i64 ((BitVec.ofInt 64 (n / 2) ^^^ (BitVec.ofInt 64 (46080 : Int))).toNat : Int))] Try.func12 ⟨by kernel_rfl, trivial⟩ ?_
      refine hR _ _ ?_
      exact ⟨by simp [nextV, nextF, xorF, tup_one, tup_two, tup_three, fk1, (beq_iff_eq.2 fk2), (beq_iff_eq.2 (Eq.symm fk2)), fk2], S1.nil⟩
    · skip
      refine J.head (.bool false) (congrArg Value.bool (beq_eq_false_iff_ne.2 fk2)) ?_
      refine J.run 6 K12_6 [(13, .int .i64 (Int.fdiv n (2 ^ 1)))] w1 (by kernel_rfl) ?_
      refine J.head (.int .i64 (n / 2)) (congrArg (Value.int .i64) (shr_lit _ _ (by decide))) ?_
      refine J.run 2 K12_7 [(2, .int .i64 (n / 2))] w1 (by kernel_rfl) ?_
      refine J.ret Try.f12 [.int .i64 (n / 2)] Try.func12 ⟨by kernel_rfl, trivial⟩ ?_
      refine hR _ _ ?_
      exact ⟨by simp [nextV, nextF, xorF, tup_one, tup_two, tup_three, fk1, fk2, (beq_eq_false_iff_ne.2 fk2), (beq_eq_false_iff_ne.2 (Ne.symm fk2))], S1.nil⟩
  · skip
    refine J.head (.bool true) (congrArg Value.bool (by rw [fk1]; rfl)) ?_
    refine J.run 5 K12_8 [(2, .int .i64 0)] w1 (by kernel_rfl) ?_
    refine J.ret Try.f12 [.int .i64 0] Try.func12 ⟨by kernel_rfl, trivial⟩ ?_
    refine hR _ _ ?_
    exact ⟨by simp [nextV, nextF, xorF, tup_one, tup_two, tup_three, fk1], S1.nil⟩

theorem hb14 : HasBody Try.prog 14 := fun _ _ => by kernel_rfl
noncomputable def K14_0 : List Item := adv 9 [] (bodyOf Try.f14)
noncomputable def K14_1 : List Item := adv 2 [] K14_0
noncomputable def K14_2 : List Item := adv 5 [true] K14_1
noncomputable def K14_3 : List Item := adv 3 [] K14_2
noncomputable def K14_4 : List Item := adv 6 [false] K14_1
noncomputable def K14_5 : List Item := adv 2 [] K14_4
set_option maxRecDepth 20000 in
set_option maxHeartbeats 20000000 in
theorem rnext_any (n : Int) (w : World) (hq : questionB n = true) : Ret Try.prog 14 #[.int .i64 n] w (fun v w' => v = .int .i64 (nextF n) ∧ Sep w [] w') := by
  have S0 := Sep.refl w
  refine Ret.named fun R hR => ?_
  refine Ret.of_J (N := 11) [(0, .int .i64 n)] Try.func14 rfl rfl (Nat.le_of_ble_eq_true (by kernel_rfl)) (by kernel_rfl) ?_
  have hq2 := questionB_iff.1 hq
  refine J.run 9 K14_0 [(4, .int .i64 (Int.tmod n 2)), (0, .int .i64 n)] w (by kernel_rfl) ?_
  refine J.head (.int .i64 (n % 2)) (congrArg (Value.int .i64) (IntWalk.rem_in _ _ (by omega))) ?_
  refine J.run 2 K14_1 [(5, .bool ((n % 2) == 1)), (0, .int .i64 n)] w (by kernel_rfl) ?_
  by_cases fk1 : (n % 2) = 1
  · skip
    refine J.head (.bool true) (congrArg Value.bool (beq_iff_eq.2 fk1)) ?_
    refine J.run 5 K14_2 [(7, .int .i64 (IntKind.wrap .i64 (Int.tdiv n 2)))] w (by kernel_rfl) ?_
    refine J.head (.int .i64 (n / 2)) (congrArg (Value.int .i64) (IntWalk.i64_quo _ _ (by omega))) ?_
    refine J.run 3 K14_3 [(2, .int .i64 (IntKind.wrap .i64 ((BitVec.ofInt 64 (n / 2) ^^^ (BitVec.ofInt 64 (46080 : Int))).toNat : Int)))] w (by kernel_rfl) ?_
    refine J.ret Try.f14 [.int .i64 (IntKind.wrap .i64 ((BitVec.ofInt 64 (n / 2) ^^^ (BitVec.ofInt 64 (46080 : Int))).toNat : Int))] Try.func14 ⟨by kernel_rfl, trivial⟩ ?_
    refine hR _ _ ?_
    exact ⟨by simp [nextF, xorF, tup_one, tup_two, tup_three, (beq_iff_eq.2 fk1), (beq_iff_eq.2 (Eq.symm fk1)), fk1], S0.nil⟩
  · skip
    refine J.head (.bool false) (congrArg Value.bool (beq_eq_false_iff_ne.2 fk1)) ?_
    refine J.run 6 K14_4 [(10, .int .i64 (IntKind.wrap .i64 (Int.tdiv n 2)))] w (by kernel_rfl) ?_
    refine J.head (.int .i64 (n / 2)) (congrArg (Value.int .i64) (IntWalk.i64_quo _ _ (by omega))) ?_
    refine J.run 2 K14_5 [(2, .int .i64 (n / 2))] w (by kernel_rfl) ?_
    refine J.ret Try.f14 [.int .i64 (n / 2)] Try.func14 ⟨by kernel_rfl, trivial⟩ ?_
    refine hR _ _ ?_
    exact ⟨by simp [nextF, xorF, tup_one, tup_two, tup_three, fk1, (beq_eq_false_iff_ne.2 fk1), (beq_eq_false_iff_ne.2 (Ne.symm fk1))], S0.nil⟩

theorem hb11 : HasBody Try.prog 11 := fun _ _ => by kernel_rfl
noncomputable def K11_0 : List Item := adv 2 [] (bodyOf Try.f11)
noncomputable def K11_1 : List Item := adv 6 [] (popK K11_0)
noncomputable def K11_2 : List Item := adv 2 [] (popK K11_1)
noncomputable def K11_3 : List Item := adv 6 [false] K11_2
noncomputable def K11_4 : List Item := adv 2 [] (popK K11_3)
noncomputable def K11_5 : List Item := adv 4 [true] K11_2
noncomputable def K11_6 : List Item := adv 2 [] (popK K11_5)
set_option maxRecDepth 20000 in
set_option maxHeartbeats 20000000 in
theorem new_any (n : Int) (w : World) : Ret Try.prog 11 #[.int .i64 n] w (fun v w' => v = newV n ∧ Sep w [] w') := by
  have S0 := Sep.refl w
  refine Ret.named fun R hR => ?_
  refine Ret.of_J (N := 10) [(0, .int .i64 n)] Try.func11 rfl rfl (Nat.le_of_ble_eq_true (by kernel_rfl)) (by kernel_rfl) ?_
  refine J.run 2 K11_0 [(0, .int .i64 n)] w (by kernel_rfl) ?_
  refine J.new S0 2 [.int .i64 0, .int .i64 0, .int .i64 0, .bool false, .bool false] 31 (by kernel_rfl) ?_
  intro b1 w1 S1
  refine J.run 6 K11_1 [(4, .int .i64 n), (2, .pointer (some ⟨b1, 0, none⟩)), (0, .int .i64 n)] w1 (by kernel_rfl) ?_
  refine J.callF 5 26 #[.int .i64 n] hb26 (by kernel_rfl) (question_any n _) ?_
  rintro _ w2 ⟨rfl, T1⟩
  have S2 : Sep w [box b1 [.int .i64 0, .int .i64 0, .int .i64 0, .bool false, .bool false] 31] w2 := S1.trans T1
  clear T1 S1
  refine J.run 2 K11_2 [(6, .bool (!(questionB n))), (2, .pointer (some ⟨b1, 0, none⟩)), (0, .int .i64 n)] w2 (by kernel_rfl) ?_
  rcases Bool.eq_false_or_eq_true (questionB n) with fk1 | fk1
  · skip
    refine J.head (.bool false) (congrArg Value.bool (by rw [fk1]; rfl)) ?_
    have fb1 := questionB_iff.1 fk1
    refine J.run 6 K11_3 [(9, .agg #[.int .i64 n, .int .i64 0, .int .i64 0, .bool false, .bool false]), (2, .pointer (some ⟨b1, 0, none⟩))] w2 (by kernel_rfl) ?_
    refine J.stBox S2 0 31 0 (.agg #[.int .i64 n, .int .i64 0, .int .i64 0, .bool false, .bool false]) [.int .i64 n, .int .i64 0, .int .i64 0, .bool false, .bool false] [box b1 [.int .i64 n, .int .i64 0, .int .i64 0, .bool false, .bool false] 31] (by kernel_rfl) rfl (by kernel_rfl) (by kernel_rfl) rfl ?_
    intro w3 S3
    refine J.run 2 K11_4 [(3, .int .i64 0), (2, .pointer (some ⟨b1, 0, none⟩))] w3 (by kernel_rfl) ?_
    refine J.ret Try.f11 [.agg #[.int .i64 n, .int .i64 0, .int .i64 0, .bool false, .bool false], .int .i64 0] Try.func11 ⟨⟨⟨b1, 0, none⟩, by kernel_rfl, ldV_run (S3.nth 0 rfl) (by kernel_rfl)⟩, by kernel_rfl, trivial⟩ ?_
    refine hR _ _ ?_
    exact ⟨by simp [newV, zeroQ, tup_one, tup_two, tup_three, fk1], S3.nil⟩
  · skip
    refine J.head (.bool true) (congrArg Value.bool (by rw [fk1]; rfl)) ?_
    refine J.run 4 K11_5 [(7, .agg #[.int .i64 0, .int .i64 0, .int .i64 0, .bool false, .bool false]), (2, .pointer (some ⟨b1, 0, none⟩))] w2 (by kernel_rfl) ?_
    refine J.stBox S2 0 31 0 (.agg #[.int .i64 0, .int .i64 0, .int .i64 0, .bool false, .bool false]) [.int .i64 0, .int .i64 0, .int .i64 0, .bool false, .bool false] [box b1 [.int .i64 0, .int .i64 0, .int .i64 0, .bool false, .bool false] 31] (by kernel_rfl) rfl (by kernel_rfl) (by kernel_rfl) rfl ?_
    intro w4 S4
    refine J.run 2 K11_6 [(3, .int .i64 2), (2, .pointer (some ⟨b1, 0, none⟩))] w4 (by kernel_rfl) ?_
    refine J.ret Try.f11 [.agg #[.int .i64 0, .int .i64 0, .int .i64 0, .bool false, .bool false], .int .i64 2] Try.func11 ⟨⟨⟨b1, 0, none⟩, by kernel_rfl, ldV_run (S4.nth 0 rfl) (by kernel_rfl)⟩, by kernel_rfl, trivial⟩ ?_
    refine hR _ _ ?_
    exact ⟨by simp [newV, zeroQ, tup_one, tup_two, tup_three, fk1], S4.nil⟩

theorem hb29 : HasBody Try.prog 29 := fun _ _ => by kernel_rfl
noncomputable def K29_0 : List Item := adv 2 [] (bodyOf Try.f29)
noncomputable def K29_1 : List Item := adv 4 [] (popK (popK K29_0))
noncomputable def K29_2 : List Item := adv 1 [] (popK K29_1)
noncomputable def K29_3 : List Item := adv 6 [] (popK K29_2)
noncomputable def K29_4 : List Item := adv 3 [true] K29_3
noncomputable def K29_5 : List Item := adv 1 [] (popK K29_4)
noncomputable def K29_6 : List Item := adv 1 [] K29_5
noncomputable def K29_7 : List Item := adv 1 [] K29_6
noncomputable def K29_8 : List Item := adv 4 [] (popK K29_7)
noncomputable def K29_9 : List Item := adv 2 [] (popK K29_8)
noncomputable def K29_10 : List Item := adv 3 [] (popK K29_9)
noncomputable def K29_11 : List Item := adv 1 [] (popK (popK K29_10))
noncomputable def K29_12 : List Item := adv 3 [false] K29_3
noncomputable def K29_13 : List Item := adv 1 [] (popK K29_12)
noncomputable def K29_14 : List Item := adv 1 [] K29_13
noncomputable def K29_15 : List Item := adv 1 [] K29_14
noncomputable def K29_16 : List Item := adv 4 [] (popK K29_15)
noncomputable def K29_17 : List Item := adv 2 [] (popK K29_16)
noncomputable def K29_18 : List Item := adv 3 [] (popK K29_17)
noncomputable def K29_19 : List Item := adv 1 [] (popK (popK K29_18))
set_option maxRecDepth 20000 in
set_option maxHeartbeats 20000000 in
theorem end_any (q a e : Int) (o f r : Bool) (w : World) (he : 0 ≤ e ∧ e ≤ 7) : Ret Try.prog 29 #[.agg #[.int .i64 q, .int .i64 a, .int .i64 e, .bool o, .bool f], .bool r] w (fun v w' => v = .agg #[.int .i64 q, .int .i64 0, .int .i64 (endE e r), .bool false, .bool (endE e r == 7)] ∧ Sep w [] w') := by
  have S0 := Sep.refl w
  refine Ret.named fun R hR => ?_
  refine Ret.of_J (N := 23) [(0, .agg #[.int .i64 q, .int .i64 a, .int .i64 e, .bool o, .bool f]), (1, .bool r)] Try.func29 rfl rfl (Nat.le_of_ble_eq_true (by kernel_rfl)) (by kernel_rfl) ?_
  refine J.run 2 K29_0 [(0, .agg #[.int .i64 q, .int .i64 a, .int .i64 e, .bool o, .bool f]), (1, .bool r)] w (by kernel_rfl) ?_
  refine J.new S0 2 [.int .i64 q, .int .i64 a, .int .i64 e, .bool o, .bool f] 31 (by kernel_rfl) ?_
  intro b1 w1 S1
  refine J.new S1 4 [.int .i64 0, .int .i64 0, .int .i64 0, .bool false, .bool false] 31 (by kernel_rfl) ?_
  intro b2 w2 S2
  refine J.run 4 K29_1 [(5, .pointer (some ⟨b1, 3, none⟩)), (4, .pointer (some ⟨b2, 0, none⟩)), (2, .pointer (some ⟨b1, 0, none⟩)), (1, .bool r)] w2 (by kernel_rfl) ?_
  refine J.stBox S2 1 4 3 (.bool false) [.int .i64 q, .int .i64 a, .int .i64 e, .bool false, .bool f] [box b2 [.int .i64 0, .int .i64 0, .int .i64 0, .bool false, .bool false] 31, box b1 [.int .i64 q, .int .i64 a, .int .i64 e, .bool false, .bool f] 31] (by kernel_rfl) rfl (by kernel_rfl) (by kernel_rfl) rfl ?_
  intro w3 S3
  refine J.run 1 K29_2 [(6, .pointer (some ⟨b1, 1, none⟩)), (4, .pointer (some ⟨b2, 0, none⟩)), (2, .pointer (some ⟨b1, 0, none⟩)), (1, .bool r)] w3 (by kernel_rfl) ?_
  refine J.stBox S3 1 3 1 (.int .i64 0) [.int .i64 q, .int .i64 0, .int .i64 e, .bool false, .bool f] [box b2 [.int .i64 0, .int .i64 0, .int .i64 0, .bool false, .bool false] 31, box b1 [.int .i64 q, .int .i64 0, .int .i64 e, .bool false, .bool f] 31] (by kernel_rfl) rfl (by kernel_rfl) (by kernel_rfl) rfl ?_
  intro w4 S4
  refine J.run 6 K29_3 [(7, .bool r), (4, .pointer (some ⟨b2, 0, none⟩)), (2, .pointer (some ⟨b1, 0, none⟩))] w4 (by kernel_rfl) ?_
  rcases Bool.eq_false_or_eq_true r with fk1 | fk1
  · skip
    refine J.head (.bool true) (congrArg Value.bool fk1) ?_
    refine J.run 3 K29_4 [(8, .pointer (some ⟨b1, 2, none⟩)), (4, .pointer (some ⟨b2, 0, none⟩)), (2, .pointer (some ⟨b1, 0, none⟩))] w4 (by kernel_rfl) ?_
    refine J.ok (OK.ldBox S4 1 9 3 2 (.int .i64 e) (by kernel_rfl) rfl (by kernel_rfl)) ?_
    refine J.run 1 K29_5 [(10, .int .i64 (IntKind.wrap .i64 (e - 1))), (4, .pointer (some ⟨b2, 0, none⟩)), (2, .pointer (some ⟨b1, 0, none⟩))] w4 (by kernel_rfl) ?_
    refine J.head (.int .i64 (e - 1)) (congrArg (Value.int .i64) (IntWalk.i64_in _ (by omega))) ?_
    refine J.run 1 K29_6 [(11, .int .i64 (if 0 > (e - 1) then 0 else (e - 1))), (4, .pointer (some ⟨b2, 0, none⟩)), (2, .pointer (some ⟨b1, 0, none⟩))] w4 (by kernel_rfl) ?_
    refine J.head (.int .i64 (max (e - 1) 0)) (congrArg (Value.int .i64) (by omega)) ?_
    refine J.run 1 K29_7 [(12, .pointer (some ⟨b1, 2, none⟩)), (11, .int .i64 (max (e - 1) 0)), (4, .pointer (some ⟨b2, 0, none⟩)), (2, .pointer (some ⟨b1, 0, none⟩))] w4 (by kernel_rfl) ?_
    refine J.stBox S4 1 3 2 (.int .i64 (max (e - 1) 0)) [.int .i64 q, .int .i64 0, .int .i64 (max (e - 1) 0), .bool false, .bool f] [box b2 [.int .i64 0, .int .i64 0, .int .i64 0, .bool false, .bool false] 31, box b1 [.int .i64 q, .int .i64 0, .int .i64 (max (e - 1) 0), .bool false, .bool f] 31] (by kernel_rfl) rfl (by kernel_rfl) (by kernel_rfl) rfl ?_
    intro w5 S5
    refine J.run 4 K29_8 [(18, .pointer (some ⟨b1, 2, none⟩)), (4, .pointer (some ⟨b2, 0, none⟩)), (2, .pointer (some ⟨b1, 0, none⟩))] w5 (by kernel_rfl) ?_
    refine J.ok (OK.ldBox S5 1 19 3 2 (.int .i64 (max (e - 1) 0)) (by kernel_rfl) rfl (by kernel_rfl)) ?_
    refine J.run 2 K29_9 [(21, .pointer (some ⟨b1, 4, none⟩)), (20, .bool ((max (e - 1) 0) == 7)), (4, .pointer (some ⟨b2, 0, none⟩)), (2, .pointer (some ⟨b1, 0, none⟩))] w5 (by kernel_rfl) ?_
    refine J.stBox S5 1 4 4 (.bool ((max (e - 1) 0) == 7)) [.int .i64 q, .int .i64 0, .int .i64 (max (e - 1) 0), .bool false, .bool ((max (e - 1) 0) == 7)] [box b2 [.int .i64 0, .int .i64 0, .int .i64 0, .bool false, .bool false] 31, box b1 [.int .i64 q, .int .i64 0, .int .i64 (max (e - 1) 0), .bool false, .bool ((max (e - 1) 0) == 7)] 31] (by kernel_rfl) rfl (by kernel_rfl) (by kernel_rfl) rfl ?_
    intro w6 S6
    refine J.run 3 K29_10 [(4, .pointer (some ⟨b2, 0, none⟩)), (2, .pointer (some ⟨b1, 0, none⟩))] w6 (by kernel_rfl) ?_
    refine J.ok (OK.ldBox S6 1 22 31 0 (.agg #[.int .i64 q, .int .i64 0, .int .i64 (max (e - 1) 0), .bool false, .bool ((max (e - 1) 0) == 7)]) (by kernel_rfl) rfl (by kernel_rfl)) ?_
    refine J.stBox S6 0 31 0 (.agg #[.int .i64 q, .int .i64 0, .int .i64 (max (e - 1) 0), .bool false, .bool ((max (e - 1) 0) == 7)]) [.int .i64 q, .int .i64 0, .int .i64 (max (e - 1) 0), .bool false, .bool ((max (e - 1) 0) == 7)] [box b2 [.int .i64 q, .int .i64 0, .int .i64 (max (e - 1) 0), .bool false, .bool ((max (e - 1) 0) == 7)] 31, box b1 [.int .i64 q, .int .i64 0, .int .i64 (max (e - 1) 0), .bool false, .bool ((max (e - 1) 0) == 7)] 31] (by kernel_rfl) rfl (by kernel_rfl) (by kernel_rfl) rfl ?_
    intro w7 S7
    refine J.run 1 K29_11 [(4, .pointer (some ⟨b2, 0, none⟩))] w7 (by kernel_rfl) ?_
    refine J.ret Try.f29 [.agg #[.int .i64 q, .int .i64 0, .int .i64 (max (e - 1) 0), .bool false, .bool ((max (e - 1) 0) == 7)]] Try.func29 ⟨⟨⟨b2, 0, none⟩, by kernel_rfl, ldV_run (S7.nth 0 rfl) (by kernel_rfl)⟩, trivial⟩ ?_
    refine hR _ _ ?_
    exact ⟨by rw [tup_one]; congr 3 <;> simp [endE, fk1, Int.max_comm, Int.min_comm], S7.nil⟩
  · skip
    refine J.head (.bool false) (congrArg Value.bool fk1) ?_
    refine J.run 3 K29_12 [(13, .pointer (some ⟨b1, 2, none⟩)), (4, .pointer (some ⟨b2, 0, none⟩)), (2, .pointer (some ⟨b1, 0, none⟩))] w4 (by kernel_rfl) ?_
    refine J.ok (OK.ldBox S4 1 14 3 2 (.int .i64 e) (by kernel_rfl) rfl (by kernel_rfl)) ?_
    refine J.run 1 K29_13 [(15, .int .i64 (IntKind.wrap .i64 (e + 2))), (4, .pointer (some ⟨b2, 0, none⟩)), (2, .pointer (some ⟨b1, 0, none⟩))] w4 (by kernel_rfl) ?_
    refine J.head (.int .i64 (e + 2)) (congrArg (Value.int .i64) (IntWalk.i64_in _ (by omega))) ?_
    refine J.run 1 K29_14 [(16, .int .i64 (if 7 < (e + 2) then 7 else (e + 2))), (4, .pointer (some ⟨b2, 0, none⟩)), (2, .pointer (some ⟨b1, 0, none⟩))] w4 (by kernel_rfl) ?_
    refine J.head (.int .i64 (min (e + 2) 7)) (congrArg (Value.int .i64) (by omega)) ?_
    refine J.run 1 K29_15 [(17, .pointer (some ⟨b1, 2, none⟩)), (16, .int .i64 (min (e + 2) 7)), (4, .pointer (some ⟨b2, 0, none⟩)), (2, .pointer (some ⟨b1, 0, none⟩))] w4 (by kernel_rfl) ?_
    refine J.stBox S4 1 3 2 (.int .i64 (min (e + 2) 7)) [.int .i64 q, .int .i64 0, .int .i64 (min (e + 2) 7), .bool false, .bool f] [box b2 [.int .i64 0, .int .i64 0, .int .i64 0, .bool false, .bool false] 31, box b1 [.int .i64 q, .int .i64 0, .int .i64 (min (e + 2) 7), .bool false, .bool f] 31] (by kernel_rfl) rfl (by kernel_rfl) (by kernel_rfl) rfl ?_
    intro w8 S8
    refine J.run 4 K29_16 [(18, .pointer (some ⟨b1, 2, none⟩)), (4, .pointer (some ⟨b2, 0, none⟩)), (2, .pointer (some ⟨b1, 0, none⟩))] w8 (by kernel_rfl) ?_
    refine J.ok (OK.ldBox S8 1 19 3 2 (.int .i64 (min (e + 2) 7)) (by kernel_rfl) rfl (by kernel_rfl)) ?_
    refine J.run 2 K29_17 [(21, .pointer (some ⟨b1, 4, none⟩)), (20, .bool ((min (e + 2) 7) == 7)), (4, .pointer (some ⟨b2, 0, none⟩)), (2, .pointer (some ⟨b1, 0, none⟩))] w8 (by kernel_rfl) ?_
    refine J.stBox S8 1 4 4 (.bool ((min (e + 2) 7) == 7)) [.int .i64 q, .int .i64 0, .int .i64 (min (e + 2) 7), .bool false, .bool ((min (e + 2) 7) == 7)] [box b2 [.int .i64 0, .int .i64 0, .int .i64 0, .bool false, .bool false] 31, box b1 [.int .i64 q, .int .i64 0, .int .i64 (min (e + 2) 7), .bool false, .bool ((min (e + 2) 7) == 7)] 31] (by kernel_rfl) rfl (by kernel_rfl) (by kernel_rfl) rfl ?_
    intro w9 S9
    refine J.run 3 K29_18 [(4, .pointer (some ⟨b2, 0, none⟩)), (2, .pointer (some ⟨b1, 0, none⟩))] w9 (by kernel_rfl) ?_
    refine J.ok (OK.ldBox S9 1 22 31 0 (.agg #[.int .i64 q, .int .i64 0, .int .i64 (min (e + 2) 7), .bool false, .bool ((min (e + 2) 7) == 7)]) (by kernel_rfl) rfl (by kernel_rfl)) ?_
    refine J.stBox S9 0 31 0 (.agg #[.int .i64 q, .int .i64 0, .int .i64 (min (e + 2) 7), .bool false, .bool ((min (e + 2) 7) == 7)]) [.int .i64 q, .int .i64 0, .int .i64 (min (e + 2) 7), .bool false, .bool ((min (e + 2) 7) == 7)] [box b2 [.int .i64 q, .int .i64 0, .int .i64 (min (e + 2) 7), .bool false, .bool ((min (e + 2) 7) == 7)] 31, box b1 [.int .i64 q, .int .i64 0, .int .i64 (min (e + 2) 7), .bool false, .bool ((min (e + 2) 7) == 7)] 31] (by kernel_rfl) rfl (by kernel_rfl) (by kernel_rfl) rfl ?_
    intro w10 S10
    refine J.run 1 K29_19 [(4, .pointer (some ⟨b2, 0, none⟩))] w10 (by kernel_rfl) ?_
    refine J.ret Try.f29 [.agg #[.int .i64 q, .int .i64 0, .int .i64 (min (e + 2) 7), .bool false, .bool ((min (e + 2) 7) == 7)]] Try.func29 ⟨⟨⟨b2, 0, none⟩, by kernel_rfl, ldV_run (S10.nth 0 rfl) (by kernel_rfl)⟩, trivial⟩ ?_
    refine hR _ _ ?_
    exact ⟨by rw [tup_one]; congr 3 <;> simp [endE, fk1, Int.max_comm, Int.min_comm], S10.nil⟩

theorem hb31 : HasBody Try.prog 31 := fun _ _ => by kernel_rfl
noncomputable def K31_0 : List Item := adv 2 [] (bodyOf Try.f31)
noncomputable def K31_1 : List Item := adv 4 [] (popK (popK K31_0))
noncomputable def K31_2 : List Item := adv 1 [] (popK K31_1)
noncomputable def K31_3 : List Item := adv 6 [] (popK K31_2)
noncomputable def K31_4 : List Item := adv 3 [true] K31_3
noncomputable def K31_5 : List Item := adv 1 [] (popK K31_4)
noncomputable def K31_6 : List Item := adv 1 [] K31_5
noncomputable def K31_7 : List Item := adv 1 [] K31_6
noncomputable def K31_8 : List Item := adv 4 [] (popK K31_7)
noncomputable def K31_9 : List Item := adv 2 [] (popK K31_8)
noncomputable def K31_10 : List Item := adv 3 [] (popK K31_9)
noncomputable def K31_11 : List Item := adv 1 [] (popK (popK K31_10))
noncomputable def K31_12 : List Item := adv 3 [false] K31_3
noncomputable def K31_13 : List Item := adv 1 [] (popK K31_12)
noncomputable def K31_14 : List Item := adv 1 [] K31_13
noncomputable def K31_15 : List Item := adv 1 [] K31_14
noncomputable def K31_16 : List Item := adv 4 [] (popK K31_15)
noncomputable def K31_17 : List Item := adv 2 [] (popK K31_16)
noncomputable def K31_18 : List Item := adv 3 [] (popK K31_17)
noncomputable def K31_19 : List Item := adv 1 [] (popK (popK K31_18))
set_option maxRecDepth 20000 in
set_option maxHeartbeats 20000000 in
theorem rend_any (q a e : Int) (o f r : Bool) (w : World) (he : 0 ≤ e ∧ e ≤ 7) : Ret Try.prog 31 #[.agg #[.int .i64 q, .int .i64 a, .int .i64 e, .bool o, .bool f], .bool r] w (fun v w' => v = .agg #[.int .i64 q, .int .i64 0, .int .i64 (endE e r), .bool false, .bool (endE e r == 7)] ∧ Sep w [] w') := by
  have S0 := Sep.refl w
  refine Ret.named fun R hR => ?_
  refine Ret.of_J (N := 23) [(0, .agg #[.int .i64 q, .int .i64 a, .int .i64 e, .bool o, .bool f]), (1, .bool r)] Try.func31 rfl rfl (Nat.le_of_ble_eq_true (by kernel_rfl)) (by kernel_rfl) ?_
  refine J.run 2 K31_0 [(0, .agg #[.int .i64 q, .int .i64 a, .int .i64 e, .bool o, .bool f]), (1, .bool r)] w (by kernel_rfl) ?_
  refine J.new S0 2 [.int .i64 q, .int .i64 a, .int .i64 e, .bool o, .bool f] 31 (by kernel_rfl) ?_
  intro b1 w1 S1
  refine J.new S1 4 [.int .i64 0, .int .i64 0, .int .i64 0, .bool false, .bool false] 31 (by kernel_rfl) ?_
  intro b2 w2 S2
  refine J.run 4 K31_1 [(5, .pointer (some ⟨b1, 3, none⟩)), (4, .pointer (some ⟨b2, 0, none⟩)), (2, .pointer (some ⟨b1, 0, none⟩)), (1, .bool r)] w2 (by kernel_rfl) ?_
  refine J.stBox S2 1 4 3 (.bool false) [.int .i64 q, .int .i64 a, .int .i64 e, .bool false, .bool f] [box b2 [.int .i64 0, .int .i64 0, .int .i64 0, .bool false, .bool false] 31, box b1 [.int .i64 q, .int .i64 a, .int .i64 e, .bool false, .bool f] 31] (by kernel_rfl) rfl (by kernel_rfl) (by kernel_rfl) rfl ?_
  intro w3 S3
  refine J.run 1 K31_2 [(6, .pointer (some ⟨b1, 1, none⟩)), (4, .pointer (some ⟨b2, 0, none⟩)), (2, .pointer (some ⟨b1, 0, none⟩)), (1, .bool r)] w3 (by kernel_rfl) ?_
  refine J.stBox S3 1 3 1 (.int .i64 0) [.int .i64 q, .int .i64 0, .int .i64 e, .bool false, .bool f] [box b2 [.int .i64 0, .int .i64 0, .int .i64 0, .bool false, .bool false] 31, box b1 [.int .i64 q, .int .i64 0, .int .i64 e, .bool false, .bool f] 31] (by kernel_rfl) rfl (by kernel_rfl) (by kernel_rfl) rfl ?_
  intro w4 S4
  refine J.run 6 K31_3 [(7, .bool r), (4, .pointer (some ⟨b2, 0, none⟩)), (2, .pointer (some ⟨b1, 0, none⟩))] w4 (by kernel_rfl) ?_
  rcases Bool.eq_false_or_eq_true r with fk1 | fk1
  · skip
    refine J.head (.bool true) (congrArg Value.bool fk1) ?_
    refine J.run 3 K31_4 [(8, .pointer (some ⟨b1, 2, none⟩)), (4, .pointer (some ⟨b2, 0, none⟩)), (2, .pointer (some ⟨b1, 0, none⟩))] w4 (by kernel_rfl) ?_
    refine J.ok (OK.ldBox S4 1 9 3 2 (.int .i64 e) (by kernel_rfl) rfl (by kernel_rfl)) ?_
    refine J.run 1 K31_5 [(10, .int .i64 (IntKind.wrap .i64 (e - 1))), (4, .pointer (some ⟨b2, 0, none⟩)), (2, .pointer (some ⟨b1, 0, none⟩))] w4 (by kernel_rfl) ?_
    refine J.head (.int .i64 (e - 1)) (congrArg (Value.int .i64) (IntWalk.i64_in _ (by omega))) ?_
    refine J.run 1 K31_6 [(11, .int .i64 (if (e - 1) > 0 then (e - 1) else 0)), (4, .pointer (some ⟨b2, 0, none⟩)), (2, .pointer (some ⟨b1, 0, none⟩))] w4 (by kernel_rfl) ?_
    refine J.head (.int .i64 (max 0 (e - 1))) (congrArg (Value.int .i64) (by omega)) ?_
    refine J.run 1 K31_7 [(12, .pointer (some ⟨b1, 2, none⟩)), (11, .int .i64 (max 0 (e - 1))), (4, .pointer (some ⟨b2, 0, none⟩)), (2, .pointer (some ⟨b1, 0, none⟩))] w4 (by kernel_rfl) ?_
    refine J.stBox S4 1 3 2 (.int .i64 (max 0 (e - 1))) [.int .i64 q, .int .i64 0, .int .i64 (max 0 (e - 1)), .bool false, .bool f] [box b2 [.int .i64 0, .int .i64 0, .int .i64 0, .bool false, .bool false] 31, box b1 [.int .i64 q, .int .i64 0, .int .i64 (max 0 (e - 1)), .bool false, .bool f] 31] (by kernel_rfl) rfl (by kernel_rfl) (by kernel_rfl) rfl ?_
    intro w5 S5
    refine J.run 4 K31_8 [(18, .pointer (some ⟨b1, 2, none⟩)), (4, .pointer (some ⟨b2, 0, none⟩)), (2, .pointer (some ⟨b1, 0, none⟩))] w5 (by kernel_rfl) ?_
    refine J.ok (OK.ldBox S5 1 19 3 2 (.int .i64 (max 0 (e - 1))) (by kernel_rfl) rfl (by kernel_rfl)) ?_
    refine J.run 2 K31_9 [(21, .pointer (some ⟨b1, 4, none⟩)), (20, .bool ((max 0 (e - 1)) == 7)), (4, .pointer (some ⟨b2, 0, none⟩)), (2, .pointer (some ⟨b1, 0, none⟩))] w5 (by kernel_rfl) ?_
    refine J.stBox S5 1 4 4 (.bool ((max 0 (e - 1)) == 7)) [.int .i64 q, .int .i64 0, .int .i64 (max 0 (e - 1)), .bool false, .bool ((max 0 (e - 1)) == 7)] [box b2 [.int .i64 0, .int .i64 0, .int .i64 0, .bool false, .bool false] 31, box b1 [.int .i64 q, .int .i64 0, .int .i64 (max 0 (e - 1)), .bool false, .bool ((max 0 (e - 1)) == 7)] 31] (by kernel_rfl) rfl (by kernel_rfl) (by kernel_rfl) rfl ?_
    intro w6 S6
    refine J.run 3 K31_10 [(4, .pointer (some ⟨b2, 0, none⟩)), (2, .pointer (some ⟨b1, 0, none⟩))] w6 (by kernel_rfl) ?_
    refine J.ok (OK.ldBox S6 1 22 31 0 (.agg #[.int .i64 q, .int .i64 0, .int .i64 (max 0 (e - 1)), .bool false, .bool ((max 0 (e - 1)) == 7)]) (by kernel_rfl) rfl (by kernel_rfl)) ?_
    refine J.stBox S6 0 31 0 (.agg #[.int .i64 q, .int .i64 0, .int .i64 (max 0 (e - 1)), .bool false, .bool ((max 0 (e - 1)) == 7)]) [.int .i64 q, .int .i64 0, .int .i64 (max 0 (e - 1)), .bool false, .bool ((max 0 (e - 1)) == 7)] [box b2 [.int .i64 q, .int .i64 0, .int .i64 (max 0 (e - 1)), .bool false, .bool ((max 0 (e - 1)) == 7)] 31, box b1 [.int .i64 q, .int .i64 0, .int .i64 (max 0 (e - 1)), .bool false, .bool ((max 0 (e - 1)) == 7)] 31] (by kernel_rfl) rfl (by kernel_rfl) (by kernel_rfl) rfl ?_
    intro w7 S7
    refine J.run 1 K31_11 [(4, .pointer (some ⟨b2, 0, none⟩))] w7 (by kernel_rfl) ?_
    refine J.ret Try.f31 [.agg #[.int .i64 q, .int .i64 0, .int .i64 (max 0 (e - 1)), .bool false, .bool ((max 0 (e - 1)) == 7)]] Try.func31 ⟨⟨⟨b2, 0, none⟩, by kernel_rfl, ldV_run (S7.nth 0 rfl) (by kernel_rfl)⟩, trivial⟩ ?_
    refine hR _ _ ?_
    exact ⟨by rw [tup_one]; congr 3 <;> simp [endE, fk1, Int.max_comm, Int.min_comm], S7.nil⟩
  · skip
    refine J.head (.bool false) (congrArg Value.bool fk1) ?_
    refine J.run 3 K31_12 [(13, .pointer (some ⟨b1, 2, none⟩)), (4, .pointer (some ⟨b2, 0, none⟩)), (2, .pointer (some ⟨b1, 0, none⟩))] w4 (by kernel_rfl) ?_
    refine J.ok (OK.ldBox S4 1 14 3 2 (.int .i64 e) (by kernel_rfl) rfl (by kernel_rfl)) ?_
    refine J.run 1 K31_13 [(15, .int .i64 (IntKind.wrap .i64 (e + 2))), (4, .pointer (some ⟨b2, 0, none⟩)), (2, .pointer (some ⟨b1, 0, none⟩))] w4 (by kernel_rfl) ?_
    refine J.head (.int .i64 (e + 2)) (congrArg (Value.int .i64) (IntWalk.i64_in _ (by omega))) ?_
    refine J.run 1 K31_14 [(16, .int .i64 (if (e + 2) < 7 then (e + 2) else 7)), (4, .pointer (some ⟨b2, 0, none⟩)), (2, .pointer (some ⟨b1, 0, none⟩))] w4 (by kernel_rfl) ?_
    refine J.head (.int .i64 (min 7 (e + 2))) (congrArg (Value.int .i64) (by omega)) ?_
    refine J.run 1 K31_15 [(17, .pointer (some ⟨b1, 2, none⟩)), (16, .int .i64 (min 7 (e + 2))), (4, .pointer (some ⟨b2, 0, none⟩)), (2, .pointer (some ⟨b1, 0, none⟩))] w4 (by kernel_rfl) ?_
    refine J.stBox S4 1 3 2 (.int .i64 (min 7 (e + 2))) [.int .i64 q, .int .i64 0, .int .i64 (min 7 (e + 2)), .bool false, .bool f] [box b2 [.int .i64 0, .int .i64 0, .int .i64 0, .bool false, .bool false] 31, box b1 [.int .i64 q, .int .i64 0, .int .i64 (min 7 (e + 2)), .bool false, .bool f] 31] (by kernel_rfl) rfl (by kernel_rfl) (by kernel_rfl) rfl ?_
    intro w8 S8
    refine J.run 4 K31_16 [(18, .pointer (some ⟨b1, 2, none⟩)), (4, .pointer (some ⟨b2, 0, none⟩)), (2, .pointer (some ⟨b1, 0, none⟩))] w8 (by kernel_rfl) ?_
    refine J.ok (OK.ldBox S8 1 19 3 2 (.int .i64 (min 7 (e + 2))) (by kernel_rfl) rfl (by kernel_rfl)) ?_
    refine J.run 2 K31_17 [(21, .pointer (some ⟨b1, 4, none⟩)), (20, .bool ((min 7 (e + 2)) == 7)), (4, .pointer (some ⟨b2, 0, none⟩)), (2, .pointer (some ⟨b1, 0, none⟩))] w8 (by kernel_rfl) ?_
    refine J.stBox S8 1 4 4 (.bool ((min 7 (e + 2)) == 7)) [.int .i64 q, .int .i64 0, .int .i64 (min 7 (e + 2)), .bool false, .bool ((min 7 (e + 2)) == 7)] [box b2 [.int .i64 0, .int .i64 0, .int .i64 0, .bool false, .bool false] 31, box b1 [.int .i64 q, .int .i64 0, .int .i64 (min 7 (e + 2)), .bool false, .bool ((min 7 (e + 2)) == 7)] 31] (by kernel_rfl) rfl (by kernel_rfl) (by kernel_rfl) rfl ?_
    intro w9 S9
    refine J.run 3 K31_18 [(4, .pointer (some ⟨b2, 0, none⟩)), (2, .pointer (some ⟨b1, 0, none⟩))] w9 (by kernel_rfl) ?_
    refine J.ok (OK.ldBox S9 1 22 31 0 (.agg #[.int .i64 q, .int .i64 0, .int .i64 (min 7 (e + 2)), .bool false, .bool ((min 7 (e + 2)) == 7)]) (by kernel_rfl) rfl (by kernel_rfl)) ?_
    refine J.stBox S9 0 31 0 (.agg #[.int .i64 q, .int .i64 0, .int .i64 (min 7 (e + 2)), .bool false, .bool ((min 7 (e + 2)) == 7)]) [.int .i64 q, .int .i64 0, .int .i64 (min 7 (e + 2)), .bool false, .bool ((min 7 (e + 2)) == 7)] [box b2 [.int .i64 q, .int .i64 0, .int .i64 (min 7 (e + 2)), .bool false, .bool ((min 7 (e + 2)) == 7)] 31, box b1 [.int .i64 q, .int .i64 0, .int .i64 (min 7 (e + 2)), .bool false, .bool ((min 7 (e + 2)) == 7)] 31] (by kernel_rfl) rfl (by kernel_rfl) (by kernel_rfl) rfl ?_
    intro w10 S10
    refine J.run 1 K31_19 [(4, .pointer (some ⟨b2, 0, none⟩))] w10 (by kernel_rfl) ?_
    refine J.ret Try.f31 [.agg #[.int .i64 q, .int .i64 0, .int .i64 (min 7 (e + 2)), .bool false, .bool ((min 7 (e + 2)) == 7)]] Try.func31 ⟨⟨⟨b2, 0, none⟩, by kernel_rfl, ldV_run (S10.nth 0 rfl) (by kernel_rfl)⟩, trivial⟩ ?_
    refine hR _ _ ?_
    exact ⟨by rw [tup_one]; congr 3 <;> simp [endE, fk1, Int.max_comm, Int.min_comm], S10.nil⟩

theorem hb17 : HasBody Try.prog 17 := fun _ _ => by kernel_rfl
noncomputable def K17_0 : List Item := adv 2 [] (bodyOf Try.f17)
noncomputable def K17_1 : List Item := adv 7 [] (popK (popK K17_0))
noncomputable def K17_2 : List Item := adv 3 [] (popK (popK K17_1))
noncomputable def K17_3 : List Item := adv 4 [false] K17_2
noncomputable def K17_4 : List Item := adv 3 [] (popK K17_3)
noncomputable def K17_5 : List Item := adv 4 [false] K17_4
noncomputable def K17_6 : List Item := adv 1 [] (popK K17_5)
noncomputable def K17_7 : List Item := adv 9 [true] K17_6
noncomputable def K17_8 : List Item := adv 3 [] (popK K17_7)
noncomputable def K17_9 : List Item := adv 1 [] K17_6
noncomputable def K17_10 : List Item := adv 3 [] (popK K17_9)
noncomputable def K17_11 : List Item := adv 4 [true] K17_10
noncomputable def K17_12 : List Item := adv 3 [] (popK K17_11)
noncomputable def K17_13 : List Item := adv 6 [false] K17_10
noncomputable def K17_14 : List Item := adv 2 [] (popK (popK K17_13))
noncomputable def K17_15 : List Item := adv 1 [] (popK K17_14)
noncomputable def K17_16 : List Item := adv 1 [] (popK K17_15)
noncomputable def K17_17 : List Item := adv 2 [] (popK K17_16)
noncomputable def K17_18 : List Item := adv 4 [true] K17_4
noncomputable def K17_19 : List Item := adv 3 [] (popK K17_18)
noncomputable def K17_20 : List Item := adv 4 [true] K17_2
noncomputable def K17_21 : List Item := adv 3 [] (popK K17_20)
set_option maxRecDepth 20000 in
set_option maxHeartbeats 20000000 in
theorem ask_any (q a e : Int) (o f : Bool) (now : Int) (w : World) : Ret Try.prog 17 #[.agg #[.int .i64 q, .int .i64 a, .int .i64 e, .bool o, .bool f], .int .i64 now] w (fun v w' => v = askV q a e o f now ∧ Sep w [] w') := by
  have S0 := Sep.refl w
  refine Ret.named fun R hR => ?_
  refine Ret.of_J (N := 35) [(0, .agg #[.int .i64 q, .int .i64 a, .int .i64 e, .bool o, .bool f]), (1, .int .i64 now)] Try.func17 rfl rfl (Nat.le_of_ble_eq_true (by kernel_rfl)) (by kernel_rfl) ?_
  refine J.run 2 K17_0 [(0, .agg #[.int .i64 q, .int .i64 a, .int .i64 e, .bool o, .bool f]), (1, .int .i64 now)] w (by kernel_rfl) ?_
  refine J.new S0 2 [.int .i64 q, .int .i64 a, .int .i64 e, .bool o, .bool f] 31 (by kernel_rfl) ?_
  intro b1 w1 S1
  refine J.new S1 4 [.int .i64 0, .int .i64 0, .int .i64 0, .bool false, .bool false] 31 (by kernel_rfl) ?_
  intro b2 w2 S2
  refine J.run 7 K17_1 [(4, .pointer (some ⟨b2, 0, none⟩)), (2, .pointer (some ⟨b1, 0, none⟩)), (1, .int .i64 now)] w2 (by kernel_rfl) ?_
  refine J.ok (OK.ldBox S2 1 8 31 0 (.agg #[.int .i64 q, .int .i64 a, .int .i64 e, .bool o, .bool f]) (by kernel_rfl) rfl (by kernel_rfl)) ?_
  refine J.callF 9 23 #[.agg #[.int .i64 q, .int .i64 a, .int .i64 e, .bool o, .bool f]] hb23 (by kernel_rfl) (valid_any q a e o f _) ?_
  rintro _ w3 ⟨rfl, T1⟩
  have S3 : Sep w [box b2 [.int .i64 0, .int .i64 0, .int .i64 0, .bool false, .bool false] 31, box b1 [.int .i64 q, .int .i64 a, .int .i64 e, .bool o, .bool f] 31] w3 := S2.trans T1
  clear T1 S2
  refine J.run 3 K17_2 [(7, .bool (!(validB q a e o f))), (4, .pointer (some ⟨b2, 0, none⟩)), (2, .pointer (some ⟨b1, 0, none⟩)), (1, .int .i64 now)] w3 (by kernel_rfl) ?_
  rcases Bool.eq_false_or_eq_true (validB q a e o f) with fk1 | fk1
  · skip
    refine J.head (.bool false) (congrArg Value.bool (by rw [fk1]; rfl)) ?_
    have fb1 := validB_bounds fk1
    refine J.run 4 K17_3 [(13, .int .i64 now), (4, .pointer (some ⟨b2, 0, none⟩)), (2, .pointer (some ⟨b1, 0, none⟩)), (1, .int .i64 now)] w3 (by kernel_rfl) ?_
    refine J.callF 14 27 #[.int .i64 now] hb27 (by kernel_rfl) (instant_any now _) ?_
    rintro _ w4 ⟨rfl, T2⟩
    have S4 : Sep w [box b2 [.int .i64 0, .int .i64 0, .int .i64 0, .bool false, .bool false] 31, box b1 [.int .i64 q, .int .i64 a, .int .i64 e, .bool o, .bool f] 31] w4 := S3.trans T2
    clear T2 S3
    refine J.run 3 K17_4 [(12, .bool (!(instantB now))), (4, .pointer (some ⟨b2, 0, none⟩)), (2, .pointer (some ⟨b1, 0, none⟩)), (1, .int .i64 now)] w4 (by kernel_rfl) ?_
    rcases Bool.eq_false_or_eq_true (instantB now) with fk2 | fk2
    · skip
      refine J.head (.bool false) (congrArg Value.bool (by rw [fk2]; rfl)) ?_
      have fb2 := instantB_iff.1 fk2
      refine J.run 4 K17_5 [(18, .pointer (some ⟨b1, 3, none⟩)), (4, .pointer (some ⟨b2, 0, none⟩)), (2, .pointer (some ⟨b1, 0, none⟩)), (1, .int .i64 now)] w4 (by kernel_rfl) ?_
      refine J.ok (OK.ldBox S4 1 19 4 3 (.bool o) (by kernel_rfl) rfl (by kernel_rfl)) ?_
      refine J.run 1 K17_6 [(20, .bool o), (4, .pointer (some ⟨b2, 0, none⟩)), (2, .pointer (some ⟨b1, 0, none⟩)), (1, .int .i64 now)] w4 (by kernel_rfl) ?_
      rcases Bool.eq_false_or_eq_true o with fk3 | fk3
      · skip
        refine J.head (.bool true) (congrArg Value.bool fk3) ?_
        refine J.run 9 K17_7 [(24, .agg #[.int .i64 0, .int .i64 0, .int .i64 0, .bool false, .bool false]), (4, .pointer (some ⟨b2, 0, none⟩))] w4 (by kernel_rfl) ?_
        refine J.stBox S4 0 31 0 (.agg #[.int .i64 0, .int .i64 0, .int .i64 0, .bool false, .bool false]) [.int .i64 0, .int .i64 0, .int .i64 0, .bool false, .bool false] [box b2 [.int .i64 0, .int .i64 0, .int .i64 0, .bool false, .bool false] 31, box b1 [.int .i64 q, .int .i64 a, .int .i64 e, .bool o, .bool f] 31] (by kernel_rfl) rfl (by kernel_rfl) (by kernel_rfl) rfl ?_
        intro w5 S5
        refine J.run 3 K17_8 [(6, .int .i64 6), (5, .int .i64 0), (4, .pointer (some ⟨b2, 0, none⟩))] w5 (by kernel_rfl) ?_
        refine J.ret Try.f17 [.agg #[.int .i64 0, .int .i64 0, .int .i64 0, .bool false, .bool false], .int .i64 0, .int .i64 6] Try.func17 ⟨⟨⟨b2, 0, none⟩, by kernel_rfl, ldV_run (S5.nth 0 rfl) (by kernel_rfl)⟩, by kernel_rfl, by kernel_rfl, trivial⟩ ?_
        refine hR _ _ ?_
        exact ⟨by (try simp only [askV, zeroQ, tup_one, tup_two, tup_three, fk1, fk2]) <;> simp [askV, zeroQ, tup_one, tup_two, tup_three, fk1, fk2, fk3], S5.nil⟩
      · skip
        refine J.head (.bool false) (congrArg Value.bool fk3) ?_
        refine J.run 1 K17_9 [(21, .pointer (some ⟨b1, 4, none⟩)), (20, .bool false), (4, .pointer (some ⟨b2, 0, none⟩)), (2, .pointer (some ⟨b1, 0, none⟩)), (1, .int .i64 now)] w4 (by kernel_rfl) ?_
        refine J.ok (OK.ldBox S4 1 22 4 4 (.bool f) (by kernel_rfl) rfl (by kernel_rfl)) ?_
        refine J.run 3 K17_10 [(17, .bool f), (4, .pointer (some ⟨b2, 0, none⟩)), (2, .pointer (some ⟨b1, 0, none⟩)), (1, .int .i64 now)] w4 (by kernel_rfl) ?_
        rcases Bool.eq_false_or_eq_true f with fk4 | fk4
        · skip
          refine J.head (.bool true) (congrArg Value.bool fk4) ?_
          refine J.run 4 K17_11 [(24, .agg #[.int .i64 0, .int .i64 0, .int .i64 0, .bool false, .bool false]), (4, .pointer (some ⟨b2, 0, none⟩))] w4 (by kernel_rfl) ?_
          refine J.stBox S4 0 31 0 (.agg #[.int .i64 0, .int .i64 0, .int .i64 0, .bool false, .bool false]) [.int .i64 0, .int .i64 0, .int .i64 0, .bool false, .bool false] [box b2 [.int .i64 0, .int .i64 0, .int .i64 0, .bool false, .bool false] 31, box b1 [.int .i64 q, .int .i64 a, .int .i64 e, .bool o, .bool f] 31] (by kernel_rfl) rfl (by kernel_rfl) (by kernel_rfl) rfl ?_
          intro w6 S6
          refine J.run 3 K17_12 [(6, .int .i64 6), (5, .int .i64 0), (4, .pointer (some ⟨b2, 0, none⟩))] w6 (by kernel_rfl) ?_
          refine J.ret Try.f17 [.agg #[.int .i64 0, .int .i64 0, .int .i64 0, .bool false, .bool false], .int .i64 0, .int .i64 6] Try.func17 ⟨⟨⟨b2, 0, none⟩, by kernel_rfl, ldV_run (S6.nth 0 rfl) (by kernel_rfl)⟩, by kernel_rfl, by kernel_rfl, trivial⟩ ?_
          refine hR _ _ ?_
          exact ⟨by (try simp only [askV, zeroQ, tup_one, tup_two, tup_three, fk1, fk2]) <;> simp [askV, zeroQ, tup_one, tup_two, tup_three, fk1, fk2, fk3, fk4], S6.nil⟩
        · skip
          refine J.head (.bool false) (congrArg Value.bool fk4) ?_
          refine J.run 6 K17_13 [(25, .pointer (some ⟨b1, 0, none⟩)), (4, .pointer (some ⟨b2, 0, none⟩)), (2, .pointer (some ⟨b1, 0, none⟩)), (1, .int .i64 now)] w4 (by kernel_rfl) ?_
          refine J.ok (OK.ldBox S4 1 26 3 0 (.int .i64 q) (by kernel_rfl) rfl (by kernel_rfl)) ?_
          have fk5 : (questionB q) = true := questionB_iff.2 (by omega)
          refine J.callF 27 12 #[.int .i64 q] hb12 (by kernel_rfl) (next_any q _) ?_
          rintro _ w7 ⟨rfl, T3⟩
          have S7 : Sep w [box b2 [.int .i64 0, .int .i64 0, .int .i64 0, .bool false, .bool false] 31, box b1 [.int .i64 q, .int .i64 a, .int .i64 e, .bool o, .bool f] 31] w7 := S4.trans T3
          clear T3 S4
          refine J.head (.int .i64 (nextF q)) (by first | (simp only [nextV, fk5, reduceCtorEq, ↓reduceIte]; done) | simp [nextV, fk5]) ?_
          refine J.run 2 K17_14 [(29, .pointer (some ⟨b1, 0, none⟩)), (28, .int .i64 now), (27, .int .i64 (nextF q)), (4, .pointer (some ⟨b2, 0, none⟩)), (2, .pointer (some ⟨b1, 0, none⟩))] w7 (by kernel_rfl) ?_
          refine J.stBox S7 1 3 0 (.int .i64 (nextF q)) [.int .i64 (nextF q), .int .i64 a, .int .i64 e, .bool o, .bool f] [box b2 [.int .i64 0, .int .i64 0, .int .i64 0, .bool false, .bool false] 31, box b1 [.int .i64 (nextF q), .int .i64 a, .int .i64 e, .bool o, .bool f] 31] (by kernel_rfl) rfl (by kernel_rfl) (by kernel_rfl) rfl ?_
          intro w8 S8
          refine J.run 1 K17_15 [(30, .pointer (some ⟨b1, 1, none⟩)), (28, .int .i64 now), (4, .pointer (some ⟨b2, 0, none⟩)), (2, .pointer (some ⟨b1, 0, none⟩))] w8 (by kernel_rfl) ?_
          refine J.stBox S8 1 3 1 (.int .i64 now) [.int .i64 (nextF q), .int .i64 now, .int .i64 e, .bool o, .bool f] [box b2 [.int .i64 0, .int .i64 0, .int .i64 0, .bool false, .bool false] 31, box b1 [.int .i64 (nextF q), .int .i64 now, .int .i64 e, .bool o, .bool f] 31] (by kernel_rfl) rfl (by kernel_rfl) (by kernel_rfl) rfl ?_
          intro w9 S9
          refine J.run 1 K17_16 [(31, .pointer (some ⟨b1, 3, none⟩)), (4, .pointer (some ⟨b2, 0, none⟩)), (2, .pointer (some ⟨b1, 0, none⟩))] w9 (by kernel_rfl) ?_
          refine J.stBox S9 1 4 3 (.bool true) [.int .i64 (nextF q), .int .i64 now, .int .i64 e, .bool true, .bool f] [box b2 [.int .i64 0, .int .i64 0, .int .i64 0, .bool false, .bool false] 31, box b1 [.int .i64 (nextF q), .int .i64 now, .int .i64 e, .bool true, .bool f] 31] (by kernel_rfl) rfl (by kernel_rfl) (by kernel_rfl) rfl ?_
          intro w10 S10
          refine J.run 2 K17_17 [(4, .pointer (some ⟨b2, 0, none⟩)), (2, .pointer (some ⟨b1, 0, none⟩))] w10 (by kernel_rfl) ?_
          have W1 : ∀ (w11 : World), Sep w [box b2 [.int .i64 (nextF q), .int .i64 now, .int .i64 e, .bool true, .bool f] 31, box b1 [.int .i64 (nextF q), .int .i64 now, .int .i64 e, .bool true, .bool f] 31] w11 → WA Try.prog 17 35 R K17_17 0 #[true, true, true, true, true, true] [(2, .pointer (some ⟨b1, 0, none⟩)), (4, .pointer (some ⟨b2, 0, none⟩)), (5, .int .i64 (nextF q)), (6, .int .i64 0), (32, .agg #[.int .i64 (nextF q), .int .i64 now, .int .i64 e, .bool true, .bool f]), (33, .pointer (some ⟨b1, 0, none⟩)), (34, .int .i64 (nextF q))] w11 := by
            intro w11 S11
            refine WA.done (by kernel_rfl) ?_
            refine J.run 0 (rRest K17_17) [(4, .pointer (some ⟨b2, 0, none⟩)), (5, .int .i64 (nextF q)), (6, .int .i64 0)] w11 (by kernel_rfl) ?_
            refine J.ret Try.f17 [.agg #[.int .i64 (nextF q), .int .i64 now, .int .i64 e, .bool true, .bool f], .int .i64 (nextF q), .int .i64 0] Try.func17 ⟨⟨⟨b2, 0, none⟩, by kernel_rfl, ldV_run (S11.nth 0 rfl) (by kernel_rfl)⟩, by kernel_rfl, by kernel_rfl, trivial⟩ ?_
            refine hR _ _ ?_
            exact ⟨by (try simp only [askV, zeroQ, tup_one, tup_two, tup_three, fk1, fk2, fk5]) <;> simp [askV, zeroQ, tup_one, tup_two, tup_three, fk1, fk2, fk5, fk3, fk4], S11.nil⟩
          have W2 : ∀ (w12 : World), Sep w [box b2 [.int .i64 0, .int .i64 0, .int .i64 0, .bool false, .bool false] 31, box b1 [.int .i64 (nextF q), .int .i64 now, .int .i64 e, .bool true, .bool f] 31] w12 → WA Try.prog 17 35 R K17_17 3 #[true, true, true, false, false, false] [(2, .pointer (some ⟨b1, 0, none⟩)), (4, .pointer (some ⟨b2, 0, none⟩)), (32, .agg #[.int .i64 (nextF q), .int .i64 now, .int .i64 e, .bool true, .bool f]), (33, .pointer (some ⟨b1, 0, none⟩)), (34, .int .i64 (nextF q))] w12 := by
            intro w12 S12
            refine WA.all [3] (by kernel_rfl) rfl ⟨?_, trivial⟩
            · skip
              refine WO.set #[true, true, true, true, false, false] (by kernel_rfl) ?_
              refine WO.stBox S12 0 31 0 (.agg #[.int .i64 (nextF q), .int .i64 now, .int .i64 e, .bool true, .bool f]) [.int .i64 (nextF q), .int .i64 now, .int .i64 e, .bool true, .bool f] [box b2 [.int .i64 (nextF q), .int .i64 now, .int .i64 e, .bool true, .bool f] 31, box b1 [.int .i64 (nextF q), .int .i64 now, .int .i64 e, .bool true, .bool f] 31] (by kernel_rfl) rfl (by kernel_rfl) (by kernel_rfl) rfl ?_
              intro w13 S13
              refine WA.take 4 5 (.int .i64 (nextF q)) #[true, true, true, true, true, false] (by kernel_rfl) (by kernel_rfl) (by kernel_rfl) (fun _ => by kernel_rfl) (by kernel_rfl) ?_
              refine WA.take 5 6 (.int .i64 0) #[true, true, true, true, true, true] (by kernel_rfl) (by kernel_rfl) (by kernel_rfl) (fun _ => by kernel_rfl) (by kernel_rfl) ?_
              refine WA.weaken (env' := [(2, .pointer (some ⟨b1, 0, none⟩)), (4, .pointer (some ⟨b2, 0, none⟩)), (5, .int .i64 (nextF q)), (6, .int .i64 0), (32, .agg #[.int .i64 (nextF q), .int .i64 now, .int .i64 e, .bool true, .bool f]), (33, .pointer (some ⟨b1, 0, none⟩)), (34, .int .i64 (nextF q))]) (by kernel_rfl) ?_
              exact W1 w13 S13
          have W3 : ∀ (w14 : World), Sep w [box b2 [.int .i64 (nextF q), .int .i64 now, .int .i64 e, .bool true, .bool f] 31, box b1 [.int .i64 (nextF q), .int .i64 now, .int .i64 e, .bool true, .bool f] 31] w14 → WA Try.prog 17 35 R K17_17 3 #[true, true, false, true, false, false] [(2, .pointer (some ⟨b1, 0, none⟩)), (4, .pointer (some ⟨b2, 0, none⟩)), (32, .agg #[.int .i64 (nextF q), .int .i64 now, .int .i64 e, .bool true, .bool f]), (33, .pointer (some ⟨b1, 0, none⟩))] w14 := by
            intro w14 S14
            refine WA.all [2] (by kernel_rfl) rfl ⟨?_, trivial⟩
            · skip
              refine WO.set #[true, true, true, true, false, false] (by kernel_rfl) ?_
              refine WO.ok (OK.ldBox S14 1 34 3 0 (.int .i64 (nextF q)) (by kernel_rfl) rfl (by kernel_rfl)) ?_
              refine WA.take 4 5 (.int .i64 (nextF q)) #[true, true, true, true, true, false] (by kernel_rfl) (by kernel_rfl) (by kernel_rfl) (fun _ => by kernel_rfl) (by kernel_rfl) ?_
              refine WA.take 5 6 (.int .i64 0) #[true, true, true, true, true, true] (by kernel_rfl) (by kernel_rfl) (by kernel_rfl) (fun _ => by kernel_rfl) (by kernel_rfl) ?_
              refine WA.weaken (env' := [(2, .pointer (some ⟨b1, 0, none⟩)), (4, .pointer (some ⟨b2, 0, none⟩)), (5, .int .i64 (nextF q)), (6, .int .i64 0), (32, .agg #[.int .i64 (nextF q), .int .i64 now, .int .i64 e, .bool true, .bool f]), (33, .pointer (some ⟨b1, 0, none⟩)), (34, .int .i64 (nextF q))]) (by kernel_rfl) ?_
              exact W1 w14 S14
          have W4 : ∀ (w15 : World), Sep w [box b2 [.int .i64 0, .int .i64 0, .int .i64 0, .bool false, .bool false] 31, box b1 [.int .i64 (nextF q), .int .i64 now, .int .i64 e, .bool true, .bool f] 31] w15 → WA Try.prog 17 35 R K17_17 4 #[true, true, false, false, false, false] [(2, .pointer (some ⟨b1, 0, none⟩)), (4, .pointer (some ⟨b2, 0, none⟩)), (32, .agg #[.int .i64 (nextF q), .int .i64 now, .int .i64 e, .bool true, .bool f]), (33, .pointer (some ⟨b1, 0, none⟩))] w15 := by
            intro w15 S15
            refine WA.all [2, 3] (by kernel_rfl) rfl ⟨?_, ?_, trivial⟩
            · skip
              refine WO.set #[true, true, true, false, false, false] (by kernel_rfl) ?_
              refine WO.ok (OK.ldBox S15 1 34 3 0 (.int .i64 (nextF q)) (by kernel_rfl) rfl (by kernel_rfl)) ?_
              refine WA.weaken (env' := [(2, .pointer (some ⟨b1, 0, none⟩)), (4, .pointer (some ⟨b2, 0, none⟩)), (32, .agg #[.int .i64 (nextF q), .int .i64 now, .int .i64 e, .bool true, .bool f]), (33, .pointer (some ⟨b1, 0, none⟩)), (34, .int .i64 (nextF q))]) (by kernel_rfl) ?_
              exact W2 w15 S15
            · skip
              refine WO.set #[true, true, false, true, false, false] (by kernel_rfl) ?_
              refine WO.stBox S15 0 31 0 (.agg #[.int .i64 (nextF q), .int .i64 now, .int .i64 e, .bool true, .bool f]) [.int .i64 (nextF q), .int .i64 now, .int .i64 e, .bool true, .bool f] [box b2 [.int .i64 (nextF q), .int .i64 now, .int .i64 e, .bool true, .bool f] 31, box b1 [.int .i64 (nextF q), .int .i64 now, .int .i64 e, .bool true, .bool f] 31] (by kernel_rfl) rfl (by kernel_rfl) (by kernel_rfl) rfl ?_
              intro w16 S16
              refine WA.weaken (env' := [(2, .pointer (some ⟨b1, 0, none⟩)), (4, .pointer (some ⟨b2, 0, none⟩)), (32, .agg #[.int .i64 (nextF q), .int .i64 now, .int .i64 e, .bool true, .bool f]), (33, .pointer (some ⟨b1, 0, none⟩))]) (by kernel_rfl) ?_
              exact W3 w16 S16
          have W5 : ∀ (w17 : World), Sep w [box b2 [.int .i64 0, .int .i64 0, .int .i64 0, .bool false, .bool false] 31, box b1 [.int .i64 (nextF q), .int .i64 now, .int .i64 e, .bool true, .bool f] 31] w17 → WA Try.prog 17 35 R K17_17 4 #[false, true, true, false, false, false] [(2, .pointer (some ⟨b1, 0, none⟩)), (4, .pointer (some ⟨b2, 0, none⟩)), (33, .pointer (some ⟨b1, 0, none⟩)), (34, .int .i64 (nextF q))] w17 := by
            intro w17 S17
            refine WA.all [0] (by kernel_rfl) rfl ⟨?_, trivial⟩
            · skip
              refine WO.set #[true, true, true, false, false, false] (by kernel_rfl) ?_
              refine WO.ok (OK.ldBox S17 1 32 31 0 (.agg #[.int .i64 (nextF q), .int .i64 now, .int .i64 e, .bool true, .bool f]) (by kernel_rfl) rfl (by kernel_rfl)) ?_
              refine WA.weaken (env' := [(2, .pointer (some ⟨b1, 0, none⟩)), (4, .pointer (some ⟨b2, 0, none⟩)), (32, .agg #[.int .i64 (nextF q), .int .i64 now, .int .i64 e, .bool true, .bool f]), (33, .pointer (some ⟨b1, 0, none⟩)), (34, .int .i64 (nextF q))]) (by kernel_rfl) ?_
              exact W2 w17 S17
          have W6 : ∀ (w18 : World), Sep w [box b2 [.int .i64 0, .int .i64 0, .int .i64 0, .bool false, .bool false] 31, box b1 [.int .i64 (nextF q), .int .i64 now, .int .i64 e, .bool true, .bool f] 31] w18 → WA Try.prog 17 35 R K17_17 5 #[false, true, false, false, false, false] [(2, .pointer (some ⟨b1, 0, none⟩)), (4, .pointer (some ⟨b2, 0, none⟩)), (33, .pointer (some ⟨b1, 0, none⟩))] w18 := by
            intro w18 S18
            refine WA.all [0, 2] (by kernel_rfl) rfl ⟨?_, ?_, trivial⟩
            · skip
              refine WO.set #[true, true, false, false, false, false] (by kernel_rfl) ?_
              refine WO.ok (OK.ldBox S18 1 32 31 0 (.agg #[.int .i64 (nextF q), .int .i64 now, .int .i64 e, .bool true, .bool f]) (by kernel_rfl) rfl (by kernel_rfl)) ?_
              refine WA.weaken (env' := [(2, .pointer (some ⟨b1, 0, none⟩)), (4, .pointer (some ⟨b2, 0, none⟩)), (32, .agg #[.int .i64 (nextF q), .int .i64 now, .int .i64 e, .bool true, .bool f]), (33, .pointer (some ⟨b1, 0, none⟩))]) (by kernel_rfl) ?_
              exact W4 w18 S18
            · skip
              refine WO.set #[false, true, true, false, false, false] (by kernel_rfl) ?_
              refine WO.ok (OK.ldBox S18 1 34 3 0 (.int .i64 (nextF q)) (by kernel_rfl) rfl (by kernel_rfl)) ?_
              refine WA.weaken (env' := [(2, .pointer (some ⟨b1, 0, none⟩)), (4, .pointer (some ⟨b2, 0, none⟩)), (33, .pointer (some ⟨b1, 0, none⟩)), (34, .int .i64 (nextF q))]) (by kernel_rfl) ?_
              exact W5 w18 S18
          refine J.drawAny S10 6 #[false, false, false, false, false, false] Try.mixed (by kernel_rfl) (by kernel_rfl) (by kernel_rfl) ?_
          intro w19 S19
          refine WA.take 1 33 (.pointer (some ⟨b1, 0, none⟩)) #[false, true, false, false, false, false] (by kernel_rfl) (by kernel_rfl) (by kernel_rfl) (fun _ => by kernel_rfl) (by kernel_rfl) ?_
          refine WA.weaken (env' := [(2, .pointer (some ⟨b1, 0, none⟩)), (4, .pointer (some ⟨b2, 0, none⟩)), (33, .pointer (some ⟨b1, 0, none⟩))]) (by kernel_rfl) ?_
          exact W6 w19 S19
    · skip
      refine J.head (.bool true) (congrArg Value.bool (by rw [fk2]; rfl)) ?_
      refine J.run 4 K17_18 [(16, .agg #[.int .i64 0, .int .i64 0, .int .i64 0, .bool false, .bool false]), (4, .pointer (some ⟨b2, 0, none⟩))] w4 (by kernel_rfl) ?_
      refine J.stBox S4 0 31 0 (.agg #[.int .i64 0, .int .i64 0, .int .i64 0, .bool false, .bool false]) [.int .i64 0, .int .i64 0, .int .i64 0, .bool false, .bool false] [box b2 [.int .i64 0, .int .i64 0, .int .i64 0, .bool false, .bool false] 31, box b1 [.int .i64 q, .int .i64 a, .int .i64 e, .bool o, .bool f] 31] (by kernel_rfl) rfl (by kernel_rfl) (by kernel_rfl) rfl ?_
      intro w20 S20
      refine J.run 3 K17_19 [(6, .int .i64 2), (5, .int .i64 0), (4, .pointer (some ⟨b2, 0, none⟩))] w20 (by kernel_rfl) ?_
      refine J.ret Try.f17 [.agg #[.int .i64 0, .int .i64 0, .int .i64 0, .bool false, .bool false], .int .i64 0, .int .i64 2] Try.func17 ⟨⟨⟨b2, 0, none⟩, by kernel_rfl, ldV_run (S20.nth 0 rfl) (by kernel_rfl)⟩, by kernel_rfl, by kernel_rfl, trivial⟩ ?_
      refine hR _ _ ?_
      exact ⟨by simp [askV, zeroQ, tup_one, tup_two, tup_three, fk1, fk2], S20.nil⟩
  · skip
    refine J.head (.bool true) (congrArg Value.bool (by rw [fk1]; rfl)) ?_
    refine J.run 4 K17_20 [(11, .agg #[.int .i64 0, .int .i64 0, .int .i64 0, .bool false, .bool false]), (4, .pointer (some ⟨b2, 0, none⟩))] w3 (by kernel_rfl) ?_
    refine J.stBox S3 0 31 0 (.agg #[.int .i64 0, .int .i64 0, .int .i64 0, .bool false, .bool false]) [.int .i64 0, .int .i64 0, .int .i64 0, .bool false, .bool false] [box b2 [.int .i64 0, .int .i64 0, .int .i64 0, .bool false, .bool false] 31, box b1 [.int .i64 q, .int .i64 a, .int .i64 e, .bool o, .bool f] 31] (by kernel_rfl) rfl (by kernel_rfl) (by kernel_rfl) rfl ?_
    intro w21 S21
    refine J.run 3 K17_21 [(6, .int .i64 1), (5, .int .i64 0), (4, .pointer (some ⟨b2, 0, none⟩))] w21 (by kernel_rfl) ?_
    refine J.ret Try.f17 [.agg #[.int .i64 0, .int .i64 0, .int .i64 0, .bool false, .bool false], .int .i64 0, .int .i64 1] Try.func17 ⟨⟨⟨b2, 0, none⟩, by kernel_rfl, ldV_run (S21.nth 0 rfl) (by kernel_rfl)⟩, by kernel_rfl, by kernel_rfl, trivial⟩ ?_
    refine hR _ _ ?_
    exact ⟨by simp [askV, zeroQ, tup_one, tup_two, tup_three, fk1], S21.nil⟩

theorem hb19 : HasBody Try.prog 19 := fun _ _ => by kernel_rfl
noncomputable def K19_0 : List Item := adv 2 [] (bodyOf Try.f19)
noncomputable def K19_1 : List Item := adv 6 [] (popK (popK K19_0))
noncomputable def K19_2 : List Item := adv 3 [] (popK (popK K19_1))
noncomputable def K19_3 : List Item := adv 4 [false] K19_2
noncomputable def K19_4 : List Item := adv 3 [] (popK K19_3)
noncomputable def K19_5 : List Item := adv 4 [false] K19_4
noncomputable def K19_6 : List Item := adv 1 [] (popK K19_5)
noncomputable def K19_7 : List Item := adv 2 [] K19_6
noncomputable def K19_8 : List Item := adv 4 [] (popK K19_7)
noncomputable def K19_9 : List Item := adv 4 [true] K19_8
noncomputable def K19_10 : List Item := adv 2 [] (popK K19_9)
noncomputable def K19_11 : List Item := adv 4 [false] K19_8
noncomputable def K19_12 : List Item := adv 1 [] (popK K19_11)
noncomputable def K19_13 : List Item := adv 2 [] K19_12
noncomputable def K19_14 : List Item := adv 1 [] (popK K19_13)
noncomputable def K19_15 : List Item := adv 4 [] K19_14
noncomputable def K19_16 : List Item := adv 3 [true] K19_15
noncomputable def K19_17 : List Item := adv 2 [] (popK (popK (popK K19_16)))
noncomputable def K19_18 : List Item := adv 5 [false] K19_15
noncomputable def K19_19 : List Item := adv 2 [] (popK (popK K19_18))
noncomputable def K19_20 : List Item := adv 11 [false] K19_6
noncomputable def K19_21 : List Item := adv 1 [] (popK K19_20)
noncomputable def K19_22 : List Item := adv 13 [false] K19_21
noncomputable def K19_23 : List Item := adv 2 [] (popK (popK K19_22))
noncomputable def K19_24 : List Item := adv 4 [true] K19_4
noncomputable def K19_25 : List Item := adv 2 [] (popK K19_24)
noncomputable def K19_26 : List Item := adv 4 [true] K19_2
noncomputable def K19_27 : List Item := adv 2 [] (popK K19_26)
set_option maxRecDepth 20000 in
set_option maxHeartbeats 20000000 in
theorem tick_any (q a e : Int) (o f : Bool) (now : Int) (w : World) : Ret Try.prog 19 #[.agg #[.int .i64 q, .int .i64 a, .int .i64 e, .bool o, .bool f], .int .i64 now] w (fun v w' => v = tickV q a e o f now ∧ Sep w [] w') := by
  have S0 := Sep.refl w
  refine Ret.named fun R hR => ?_
  refine Ret.of_J (N := 39) [(0, .agg #[.int .i64 q, .int .i64 a, .int .i64 e, .bool o, .bool f]), (1, .int .i64 now)] Try.func19 rfl rfl (Nat.le_of_ble_eq_true (by kernel_rfl)) (by kernel_rfl) ?_
  refine J.run 2 K19_0 [(0, .agg #[.int .i64 q, .int .i64 a, .int .i64 e, .bool o, .bool f]), (1, .int .i64 now)] w (by kernel_rfl) ?_
  refine J.new S0 2 [.int .i64 q, .int .i64 a, .int .i64 e, .bool o, .bool f] 31 (by kernel_rfl) ?_
  intro b1 w1 S1
  refine J.new S1 4 [.int .i64 0, .int .i64 0, .int .i64 0, .bool false, .bool false] 31 (by kernel_rfl) ?_
  intro b2 w2 S2
  refine J.run 6 K19_1 [(4, .pointer (some ⟨b2, 0, none⟩)), (2, .pointer (some ⟨b1, 0, none⟩)), (1, .int .i64 now)] w2 (by kernel_rfl) ?_
  refine J.ok (OK.ldBox S2 1 7 31 0 (.agg #[.int .i64 q, .int .i64 a, .int .i64 e, .bool o, .bool f]) (by kernel_rfl) rfl (by kernel_rfl)) ?_
  refine J.callF 8 23 #[.agg #[.int .i64 q, .int .i64 a, .int .i64 e, .bool o, .bool f]] hb23 (by kernel_rfl) (valid_any q a e o f _) ?_
  rintro _ w3 ⟨rfl, T1⟩
  have S3 : Sep w [box b2 [.int .i64 0, .int .i64 0, .int .i64 0, .bool false, .bool false] 31, box b1 [.int .i64 q, .int .i64 a, .int .i64 e, .bool o, .bool f] 31] w3 := S2.trans T1
  clear T1 S2
  refine J.run 3 K19_2 [(6, .bool (!(validB q a e o f))), (4, .pointer (some ⟨b2, 0, none⟩)), (2, .pointer (some ⟨b1, 0, none⟩)), (1, .int .i64 now)] w3 (by kernel_rfl) ?_
  rcases Bool.eq_false_or_eq_true (validB q a e o f) with fk1 | fk1
  · skip
    refine J.head (.bool false) (congrArg Value.bool (by rw [fk1]; rfl)) ?_
    have fb1 := validB_bounds fk1
    refine J.run 4 K19_3 [(12, .int .i64 now), (4, .pointer (some ⟨b2, 0, none⟩)), (2, .pointer (some ⟨b1, 0, none⟩)), (1, .int .i64 now)] w3 (by kernel_rfl) ?_
    refine J.callF 13 27 #[.int .i64 now] hb27 (by kernel_rfl) (instant_any now _) ?_
    rintro _ w4 ⟨rfl, T2⟩
    have S4 : Sep w [box b2 [.int .i64 0, .int .i64 0, .int .i64 0, .bool false, .bool false] 31, box b1 [.int .i64 q, .int .i64 a, .int .i64 e, .bool o, .bool f] 31] w4 := S3.trans T2
    clear T2 S3
    refine J.run 3 K19_4 [(11, .bool (!(instantB now))), (4, .pointer (some ⟨b2, 0, none⟩)), (2, .pointer (some ⟨b1, 0, none⟩)), (1, .int .i64 now)] w4 (by kernel_rfl) ?_
    rcases Bool.eq_false_or_eq_true (instantB now) with fk2 | fk2
    · skip
      refine J.head (.bool false) (congrArg Value.bool (by rw [fk2]; rfl)) ?_
      have fb2 := instantB_iff.1 fk2
      refine J.run 4 K19_5 [(17, .pointer (some ⟨b1, 3, none⟩)), (4, .pointer (some ⟨b2, 0, none⟩)), (2, .pointer (some ⟨b1, 0, none⟩)), (1, .int .i64 now)] w4 (by kernel_rfl) ?_
      refine J.ok (OK.ldBox S4 1 18 4 3 (.bool o) (by kernel_rfl) rfl (by kernel_rfl)) ?_
      refine J.run 1 K19_6 [(19, .bool o), (4, .pointer (some ⟨b2, 0, none⟩)), (2, .pointer (some ⟨b1, 0, none⟩)), (1, .int .i64 now)] w4 (by kernel_rfl) ?_
      rcases Bool.eq_false_or_eq_true o with fk3 | fk3
      · skip
        refine J.head (.bool true) (congrArg Value.bool fk3) ?_
        refine J.run 2 K19_7 [(21, .pointer (some ⟨b1, 1, none⟩)), (20, .int .i64 now), (19, .bool true), (4, .pointer (some ⟨b2, 0, none⟩)), (2, .pointer (some ⟨b1, 0, none⟩)), (1, .int .i64 now)] w4 (by kernel_rfl) ?_
        refine J.ok (OK.ldBox S4 1 22 3 1 (.int .i64 a) (by kernel_rfl) rfl (by kernel_rfl)) ?_
        refine J.run 4 K19_8 [(16, .bool (decide (now < a))), (4, .pointer (some ⟨b2, 0, none⟩)), (2, .pointer (some ⟨b1, 0, none⟩)), (1, .int .i64 now)] w4 (by kernel_rfl) ?_
        by_cases fk4 : now < a
        · skip
          refine J.head (.bool true) (congrArg Value.bool (decide_eq_true fk4)) ?_
          refine J.run 4 K19_9 [(25, .agg #[.int .i64 0, .int .i64 0, .int .i64 0, .bool false, .bool false]), (4, .pointer (some ⟨b2, 0, none⟩))] w4 (by kernel_rfl) ?_
          refine J.stBox S4 0 31 0 (.agg #[.int .i64 0, .int .i64 0, .int .i64 0, .bool false, .bool false]) [.int .i64 0, .int .i64 0, .int .i64 0, .bool false, .bool false] [box b2 [.int .i64 0, .int .i64 0, .int .i64 0, .bool false, .bool false] 31, box b1 [.int .i64 q, .int .i64 a, .int .i64 e, .bool o, .bool f] 31] (by kernel_rfl) rfl (by kernel_rfl) (by kernel_rfl) rfl ?_
          intro w5 S5
          refine J.run 2 K19_10 [(5, .int .i64 16), (4, .pointer (some ⟨b2, 0, none⟩))] w5 (by kernel_rfl) ?_
          refine J.ret Try.f19 [.agg #[.int .i64 0, .int .i64 0, .int .i64 0, .bool false, .bool false], .int .i64 16] Try.func19 ⟨⟨⟨b2, 0, none⟩, by kernel_rfl, ldV_run (S5.nth 0 rfl) (by kernel_rfl)⟩, by kernel_rfl, trivial⟩ ?_
          refine hR _ _ ?_
          exact ⟨by (try simp only [tickV, zeroQ, tup_one, tup_two, tup_three, fk1, fk2, fk4, (decide_eq_true fk4)]) <;> simp [tickV, zeroQ, tup_one, tup_two, tup_three, fk1, fk2, fk4, (decide_eq_true fk4), fk3], S5.nil⟩
        · skip
          refine J.head (.bool false) (congrArg Value.bool (decide_eq_false fk4)) ?_
          refine J.run 4 K19_11 [(27, .pointer (some ⟨b1, 3, none⟩)), (4, .pointer (some ⟨b2, 0, none⟩)), (2, .pointer (some ⟨b1, 0, none⟩)), (1, .int .i64 now)] w4 (by kernel_rfl) ?_
          refine J.ok (OK.ldBox S4 1 28 4 3 (.bool o) (by kernel_rfl) rfl (by kernel_rfl)) ?_
          refine J.run 1 K19_12 [(29, .bool o), (4, .pointer (some ⟨b2, 0, none⟩)), (2, .pointer (some ⟨b1, 0, none⟩)), (1, .int .i64 now)] w4 (by kernel_rfl) ?_
          refine J.head (.bool true) (congrArg Value.bool fk3) ?_
          refine J.run 2 K19_13 [(31, .pointer (some ⟨b1, 1, none⟩)), (30, .int .i64 now), (29, .bool true), (4, .pointer (some ⟨b2, 0, none⟩)), (2, .pointer (some ⟨b1, 0, none⟩))] w4 (by kernel_rfl) ?_
          refine J.ok (OK.ldBox S4 1 32 3 1 (.int .i64 a) (by kernel_rfl) rfl (by kernel_rfl)) ?_
          refine J.run 1 K19_14 [(33, .int .i64 (IntKind.wrap .i64 (now - a))), (29, .bool true), (4, .pointer (some ⟨b2, 0, none⟩)), (2, .pointer (some ⟨b1, 0, none⟩))] w4 (by kernel_rfl) ?_
          refine J.head (.int .i64 (now - a)) (congrArg (Value.int .i64) (IntWalk.i64_in _ (by omega))) ?_
          refine J.run 4 K19_15 [(26, .bool (decide ((now - a) > 20000))), (4, .pointer (some ⟨b2, 0, none⟩)), (2, .pointer (some ⟨b1, 0, none⟩))] w4 (by kernel_rfl) ?_
          by_cases fk6 : (now - a) > 20000
          · skip
            refine J.head (.bool true) (congrArg Value.bool (decide_eq_true fk6)) ?_
            refine J.run 3 K19_16 [(4, .pointer (some ⟨b2, 0, none⟩)), (2, .pointer (some ⟨b1, 0, none⟩))] w4 (by kernel_rfl) ?_
            refine J.ok (OK.ldBox S4 1 36 31 0 (.agg #[.int .i64 q, .int .i64 a, .int .i64 e, .bool o, .bool f]) (by kernel_rfl) rfl (by kernel_rfl)) ?_
            refine J.callF 37 29 #[.agg #[.int .i64 q, .int .i64 a, .int .i64 e, .bool o, .bool f], .bool false] hb29 (by kernel_rfl) (end_any q a e o f false _ (by omega)) ?_
            rintro _ w6 ⟨rfl, T3⟩
            have S6 : Sep w [box b2 [.int .i64 0, .int .i64 0, .int .i64 0, .bool false, .bool false] 31, box b1 [.int .i64 q, .int .i64 a, .int .i64 e, .bool o, .bool f] 31] w6 := S4.trans T3
            clear T3 S4
            refine J.stBox S6 0 31 0 (.agg #[.int .i64 q, .int .i64 0, .int .i64 (endE e false), .bool false, .bool ((endE e false) == 7)]) [.int .i64 q, .int .i64 0, .int .i64 (endE e false), .bool false, .bool ((endE e false) == 7)] [box b2 [.int .i64 q, .int .i64 0, .int .i64 (endE e false), .bool false, .bool ((endE e false) == 7)] 31, box b1 [.int .i64 q, .int .i64 a, .int .i64 e, .bool o, .bool f] 31] (by kernel_rfl) rfl (by kernel_rfl) (by kernel_rfl) rfl ?_
            intro w7 S7
            refine J.run 2 K19_17 [(5, .int .i64 0), (4, .pointer (some ⟨b2, 0, none⟩))] w7 (by kernel_rfl) ?_
            refine J.ret Try.f19 [.agg #[.int .i64 q, .int .i64 0, .int .i64 (endE e false), .bool false, .bool ((endE e false) == 7)], .int .i64 0] Try.func19 ⟨⟨⟨b2, 0, none⟩, by kernel_rfl, ldV_run (S7.nth 0 rfl) (by kernel_rfl)⟩, by kernel_rfl, trivial⟩ ?_
            refine hR _ _ ?_
            exact ⟨by (try simp only [tickV, zeroQ, tup_one, tup_two, tup_three, fk1, fk2, fk4, (decide_eq_false fk4), fk6, (decide_eq_true fk6)]) <;> simp [tickV, zeroQ, tup_one, tup_two, tup_three, fk1, fk2, fk4, (decide_eq_false fk4), fk6, (decide_eq_true fk6), fk3], S7.nil⟩
          · skip
            refine J.head (.bool false) (congrArg Value.bool (decide_eq_false fk6)) ?_
            refine J.run 5 K19_18 [(4, .pointer (some ⟨b2, 0, none⟩)), (2, .pointer (some ⟨b1, 0, none⟩))] w4 (by kernel_rfl) ?_
            refine J.ok (OK.ldBox S4 1 38 31 0 (.agg #[.int .i64 q, .int .i64 a, .int .i64 e, .bool o, .bool f]) (by kernel_rfl) rfl (by kernel_rfl)) ?_
            refine J.stBox S4 0 31 0 (.agg #[.int .i64 q, .int .i64 a, .int .i64 e, .bool o, .bool f]) [.int .i64 q, .int .i64 a, .int .i64 e, .bool o, .bool f] [box b2 [.int .i64 q, .int .i64 a, .int .i64 e, .bool o, .bool f] 31, box b1 [.int .i64 q, .int .i64 a, .int .i64 e, .bool o, .bool f] 31] (by kernel_rfl) rfl (by kernel_rfl) (by kernel_rfl) rfl ?_
            intro w8 S8
            refine J.run 2 K19_19 [(5, .int .i64 0), (4, .pointer (some ⟨b2, 0, none⟩))] w8 (by kernel_rfl) ?_
            refine J.ret Try.f19 [.agg #[.int .i64 q, .int .i64 a, .int .i64 e, .bool o, .bool f], .int .i64 0] Try.func19 ⟨⟨⟨b2, 0, none⟩, by kernel_rfl, ldV_run (S8.nth 0 rfl) (by kernel_rfl)⟩, by kernel_rfl, trivial⟩ ?_
            refine hR _ _ ?_
            exact ⟨by (try simp only [tickV, zeroQ, tup_one, tup_two, tup_three, fk1, fk2, fk4, (decide_eq_false fk4), fk6, (decide_eq_false fk6)]) <;> simp [tickV, zeroQ, tup_one, tup_two, tup_three, fk1, fk2, fk4, (decide_eq_false fk4), fk6, (decide_eq_false fk6), fk3], S8.nil⟩
      · skip
        refine J.head (.bool false) (congrArg Value.bool fk3) ?_
        refine J.run 11 K19_20 [(27, .pointer (some ⟨b1, 3, none⟩)), (4, .pointer (some ⟨b2, 0, none⟩)), (2, .pointer (some ⟨b1, 0, none⟩)), (1, .int .i64 now)] w4 (by kernel_rfl) ?_
        refine J.ok (OK.ldBox S4 1 28 4 3 (.bool o) (by kernel_rfl) rfl (by kernel_rfl)) ?_
        refine J.run 1 K19_21 [(29, .bool o), (4, .pointer (some ⟨b2, 0, none⟩)), (2, .pointer (some ⟨b1, 0, none⟩)), (1, .int .i64 now)] w4 (by kernel_rfl) ?_
        refine J.head (.bool false) (congrArg Value.bool fk3) ?_
        refine J.run 13 K19_22 [(4, .pointer (some ⟨b2, 0, none⟩)), (2, .pointer (some ⟨b1, 0, none⟩))] w4 (by kernel_rfl) ?_
        refine J.ok (OK.ldBox S4 1 38 31 0 (.agg #[.int .i64 q, .int .i64 a, .int .i64 e, .bool o, .bool f]) (by kernel_rfl) rfl (by kernel_rfl)) ?_
        refine J.stBox S4 0 31 0 (.agg #[.int .i64 q, .int .i64 a, .int .i64 e, .bool o, .bool f]) [.int .i64 q, .int .i64 a, .int .i64 e, .bool o, .bool f] [box b2 [.int .i64 q, .int .i64 a, .int .i64 e, .bool o, .bool f] 31, box b1 [.int .i64 q, .int .i64 a, .int .i64 e, .bool o, .bool f] 31] (by kernel_rfl) rfl (by kernel_rfl) (by kernel_rfl) rfl ?_
        intro w9 S9
        refine J.run 2 K19_23 [(5, .int .i64 0), (4, .pointer (some ⟨b2, 0, none⟩))] w9 (by kernel_rfl) ?_
        refine J.ret Try.f19 [.agg #[.int .i64 q, .int .i64 a, .int .i64 e, .bool o, .bool f], .int .i64 0] Try.func19 ⟨⟨⟨b2, 0, none⟩, by kernel_rfl, ldV_run (S9.nth 0 rfl) (by kernel_rfl)⟩, by kernel_rfl, trivial⟩ ?_
        refine hR _ _ ?_
        exact ⟨by (try simp only [tickV, zeroQ, tup_one, tup_two, tup_three, fk1, fk2]) <;> simp [tickV, zeroQ, tup_one, tup_two, tup_three, fk1, fk2, fk3], S9.nil⟩
    · skip
      refine J.head (.bool true) (congrArg Value.bool (by rw [fk2]; rfl)) ?_
      refine J.run 4 K19_24 [(15, .agg #[.int .i64 0, .int .i64 0, .int .i64 0, .bool false, .bool false]), (4, .pointer (some ⟨b2, 0, none⟩))] w4 (by kernel_rfl) ?_
      refine J.stBox S4 0 31 0 (.agg #[.int .i64 0, .int .i64 0, .int .i64 0, .bool false, .bool false]) [.int .i64 0, .int .i64 0, .int .i64 0, .bool false, .bool false] [box b2 [.int .i64 0, .int .i64 0, .int .i64 0, .bool false, .bool false] 31, box b1 [.int .i64 q, .int .i64 a, .int .i64 e, .bool o, .bool f] 31] (by kernel_rfl) rfl (by kernel_rfl) (by kernel_rfl) rfl ?_
      intro w10 S10
      refine J.run 2 K19_25 [(5, .int .i64 2), (4, .pointer (some ⟨b2, 0, none⟩))] w10 (by kernel_rfl) ?_
      refine J.ret Try.f19 [.agg #[.int .i64 0, .int .i64 0, .int .i64 0, .bool false, .bool false], .int .i64 2] Try.func19 ⟨⟨⟨b2, 0, none⟩, by kernel_rfl, ldV_run (S10.nth 0 rfl) (by kernel_rfl)⟩, by kernel_rfl, trivial⟩ ?_
      refine hR _ _ ?_
      exact ⟨by simp [tickV, zeroQ, tup_one, tup_two, tup_three, fk1, fk2], S10.nil⟩
  · skip
    refine J.head (.bool true) (congrArg Value.bool (by rw [fk1]; rfl)) ?_
    refine J.run 4 K19_26 [(10, .agg #[.int .i64 0, .int .i64 0, .int .i64 0, .bool false, .bool false]), (4, .pointer (some ⟨b2, 0, none⟩))] w3 (by kernel_rfl) ?_
    refine J.stBox S3 0 31 0 (.agg #[.int .i64 0, .int .i64 0, .int .i64 0, .bool false, .bool false]) [.int .i64 0, .int .i64 0, .int .i64 0, .bool false, .bool false] [box b2 [.int .i64 0, .int .i64 0, .int .i64 0, .bool false, .bool false] 31, box b1 [.int .i64 q, .int .i64 a, .int .i64 e, .bool o, .bool f] 31] (by kernel_rfl) rfl (by kernel_rfl) (by kernel_rfl) rfl ?_
    intro w11 S11
    refine J.run 2 K19_27 [(5, .int .i64 1), (4, .pointer (some ⟨b2, 0, none⟩))] w11 (by kernel_rfl) ?_
    refine J.ret Try.f19 [.agg #[.int .i64 0, .int .i64 0, .int .i64 0, .bool false, .bool false], .int .i64 1] Try.func19 ⟨⟨⟨b2, 0, none⟩, by kernel_rfl, ldV_run (S11.nth 0 rfl) (by kernel_rfl)⟩, by kernel_rfl, trivial⟩ ?_
    refine hR _ _ ?_
    exact ⟨by simp [tickV, zeroQ, tup_one, tup_two, tup_three, fk1], S11.nil⟩

theorem hb18 : HasBody Try.prog 18 := fun _ _ => by kernel_rfl
noncomputable def K18_0 : List Item := adv 2 [] (bodyOf Try.f18)
noncomputable def K18_1 : List Item := adv 6 [] (popK (popK K18_0))
noncomputable def K18_2 : List Item := adv 2 [] (popK (popK K18_1))
noncomputable def K18_3 : List Item := adv 1 [] K18_2
noncomputable def K18_4 : List Item := adv 4 [] (popK K18_3)
noncomputable def K18_5 : List Item := adv 4 [false] K18_4
noncomputable def K18_6 : List Item := adv 2 [] (popK K18_5)
noncomputable def K18_7 : List Item := adv 1 [] K18_6
noncomputable def K18_8 : List Item := adv 4 [] (popK K18_7)
noncomputable def K18_9 : List Item := adv 4 [false] K18_8
noncomputable def K18_10 : List Item := adv 3 [] (popK K18_9)
noncomputable def K18_11 : List Item := adv 5 [false] K18_10
noncomputable def K18_12 : List Item := adv 3 [] (popK K18_11)
noncomputable def K18_13 : List Item := adv 4 [true] K18_12
noncomputable def K18_14 : List Item := adv 2 [] (popK K18_13)
noncomputable def K18_15 : List Item := adv 6 [false] K18_12
noncomputable def K18_16 : List Item := adv 1 [] (popK K18_15)
noncomputable def K18_17 : List Item := adv 10 [] (popK K18_16)
noncomputable def K18_18 : List Item := adv 1 [] (popK K18_17)
noncomputable def K18_19 : List Item := adv 4 [] K18_18
noncomputable def K18_20 : List Item := adv 4 [] (popK K18_19)
noncomputable def K18_21 : List Item := adv 4 [] K18_20
noncomputable def K18_22 : List Item := adv 3 [] K18_21
noncomputable def K18_23 : List Item := adv 2 [] (popK (popK K18_22))
noncomputable def K18_24 : List Item := adv 3 [] K18_21
noncomputable def K18_25 : List Item := adv 2 [] (popK (popK K18_24))
noncomputable def K18_26 : List Item := adv 7 [] K18_20
noncomputable def K18_27 : List Item := adv 2 [] (popK (popK K18_26))
noncomputable def K18_28 : List Item := adv 4 [true] K18_10
noncomputable def K18_29 : List Item := adv 2 [] (popK K18_28)
noncomputable def K18_30 : List Item := adv 4 [true] K18_8
noncomputable def K18_31 : List Item := adv 2 [] (popK K18_30)
noncomputable def K18_32 : List Item := adv 10 [true] K18_6
noncomputable def K18_33 : List Item := adv 2 [] (popK K18_32)
noncomputable def K18_34 : List Item := adv 4 [true] K18_4
noncomputable def K18_35 : List Item := adv 2 [] (popK K18_34)
noncomputable def K18_36 : List Item := adv 10 [true] K18_2
noncomputable def K18_37 : List Item := adv 2 [] (popK K18_36)
set_option maxRecDepth 20000 in
set_option maxHeartbeats 20000000 in
theorem reply_any (q a e : Int) (o f : Bool) (now x : Int) (la : Option Addr) (len cap : Nat) (l : List Int) (w : World) (hI : Ints w la len l) (hlen : len ≤ 9223372036854775807) : Ret Try.prog 18 #[.agg #[.int .i64 q, .int .i64 a, .int .i64 e, .bool o, .bool f], .int .i64 now, .int .i64 x, .slice la len cap] w (fun v w' => v = replyV q a e o f now x l ∧ Sep w [] w') := by
  have S0 := Sep.refl w
  refine Ret.named fun R hR => ?_
  refine Ret.of_J (N := 68) [(0, .agg #[.int .i64 q, .int .i64 a, .int .i64 e, .bool o, .bool f]), (1, .int .i64 now), (2, .int .i64 x), (3, .slice la len cap)] Try.func18 rfl rfl (Nat.le_of_ble_eq_true (by kernel_rfl)) (by kernel_rfl) ?_
  refine J.run 2 K18_0 [(0, .agg #[.int .i64 q, .int .i64 a, .int .i64 e, .bool o, .bool f]), (1, .int .i64 now), (2, .int .i64 x), (3, .slice la len cap)] w (by kernel_rfl) ?_
  refine J.new S0 4 [.int .i64 q, .int .i64 a, .int .i64 e, .bool o, .bool f] 31 (by kernel_rfl) ?_
  intro b1 w1 S1
  refine J.new S1 8 [.int .i64 0, .int .i64 0, .int .i64 0, .bool false, .bool false] 31 (by kernel_rfl) ?_
  intro b2 w2 S2
  refine J.run 6 K18_1 [(8, .pointer (some ⟨b2, 0, none⟩)), (4, .pointer (some ⟨b1, 0, none⟩)), (1, .int .i64 now), (2, .int .i64 x), (3, .slice la len cap)] w2 (by kernel_rfl) ?_
  refine J.ok (OK.ldBox S2 1 14 31 0 (.agg #[.int .i64 q, .int .i64 a, .int .i64 e, .bool o, .bool f]) (by kernel_rfl) rfl (by kernel_rfl)) ?_
  refine J.callF 15 23 #[.agg #[.int .i64 q, .int .i64 a, .int .i64 e, .bool o, .bool f]] hb23 (by kernel_rfl) (valid_any q a e o f _) ?_
  rintro _ w3 ⟨rfl, T1⟩
  have S3 : Sep w [box b2 [.int .i64 0, .int .i64 0, .int .i64 0, .bool false, .bool false] 31, box b1 [.int .i64 q, .int .i64 a, .int .i64 e, .bool o, .bool f] 31] w3 := S2.trans T1
  clear T1 S2
  refine J.run 2 K18_2 [(17, .bool (!(validB q a e o f))), (8, .pointer (some ⟨b2, 0, none⟩)), (4, .pointer (some ⟨b1, 0, none⟩)), (1, .int .i64 now), (2, .int .i64 x), (3, .slice la len cap)] w3 (by kernel_rfl) ?_
  rcases Bool.eq_false_or_eq_true (validB q a e o f) with fk1 | fk1
  · skip
    refine J.head (.bool false) (congrArg Value.bool (by rw [fk1]; rfl)) ?_
    have fb1 := validB_bounds fk1
    refine J.run 1 K18_3 [(18, .slice la len cap), (17, .bool false), (8, .pointer (some ⟨b2, 0, none⟩)), (4, .pointer (some ⟨b1, 0, none⟩)), (1, .int .i64 now), (2, .int .i64 x), (3, .slice la len cap)] w3 (by kernel_rfl) ?_
    refine J.callF 19 25 #[.slice la len cap] hb25 (by kernel_rfl) (parts_any la len cap l _ (hI.sep S3) (by omega)) ?_
    rintro _ w4 ⟨rfl, T2⟩
    have S4 : Sep w [box b2 [.int .i64 0, .int .i64 0, .int .i64 0, .bool false, .bool false] 31, box b1 [.int .i64 q, .int .i64 a, .int .i64 e, .bool o, .bool f] 31] w4 := S3.trans T2
    clear T2 S3
    refine J.run 4 K18_4 [(13, .bool (!(partsB l))), (8, .pointer (some ⟨b2, 0, none⟩)), (4, .pointer (some ⟨b1, 0, none⟩)), (1, .int .i64 now), (2, .int .i64 x), (3, .slice la len cap)] w4 (by kernel_rfl) ?_
    rcases Bool.eq_false_or_eq_true (partsB l) with fk2 | fk2
    · skip
      refine J.head (.bool false) (congrArg Value.bool (by rw [fk2]; rfl)) ?_
      refine J.run 4 K18_5 [(24, .int .i64 now), (8, .pointer (some ⟨b2, 0, none⟩)), (4, .pointer (some ⟨b1, 0, none⟩)), (1, .int .i64 now), (2, .int .i64 x), (3, .slice la len cap)] w4 (by kernel_rfl) ?_
      refine J.callF 25 27 #[.int .i64 now] hb27 (by kernel_rfl) (instant_any now _) ?_
      rintro _ w5 ⟨rfl, T3⟩
      have S5 : Sep w [box b2 [.int .i64 0, .int .i64 0, .int .i64 0, .bool false, .bool false] 31, box b1 [.int .i64 q, .int .i64 a, .int .i64 e, .bool o, .bool f] 31] w5 := S4.trans T3
      clear T3 S4
      refine J.run 2 K18_6 [(27, .bool (!(instantB now))), (8, .pointer (some ⟨b2, 0, none⟩)), (4, .pointer (some ⟨b1, 0, none⟩)), (1, .int .i64 now), (2, .int .i64 x), (3, .slice la len cap)] w5 (by kernel_rfl) ?_
      rcases Bool.eq_false_or_eq_true (instantB now) with fk3 | fk3
      · skip
        refine J.head (.bool false) (congrArg Value.bool (by rw [fk3]; rfl)) ?_
        have fb2 := instantB_iff.1 fk3
        refine J.run 1 K18_7 [(28, .int .i64 x), (27, .bool false), (8, .pointer (some ⟨b2, 0, none⟩)), (4, .pointer (some ⟨b1, 0, none⟩)), (1, .int .i64 now), (2, .int .i64 x), (3, .slice la len cap)] w5 (by kernel_rfl) ?_
        refine J.callF 29 28 #[.int .i64 x] hb28 (by kernel_rfl) (word_any x _) ?_
        rintro _ w6 ⟨rfl, T4⟩
        have S6 : Sep w [box b2 [.int .i64 0, .int .i64 0, .int .i64 0, .bool false, .bool false] 31, box b1 [.int .i64 q, .int .i64 a, .int .i64 e, .bool o, .bool f] 31] w6 := S5.trans T4
        clear T4 S5
        refine J.run 4 K18_8 [(23, .bool (!(wordB x))), (8, .pointer (some ⟨b2, 0, none⟩)), (4, .pointer (some ⟨b1, 0, none⟩)), (1, .int .i64 now), (2, .int .i64 x), (3, .slice la len cap)] w6 (by kernel_rfl) ?_
        rcases Bool.eq_false_or_eq_true (wordB x) with fk4 | fk4
        · skip
          refine J.head (.bool false) (congrArg Value.bool (by rw [fk4]; rfl)) ?_
          have fb3 := wordB_iff.1 fk4
          refine J.run 4 K18_9 [(34, .pointer (some ⟨b1, 3, none⟩)), (8, .pointer (some ⟨b2, 0, none⟩)), (4, .pointer (some ⟨b1, 0, none⟩)), (1, .int .i64 now), (2, .int .i64 x), (3, .slice la len cap)] w6 (by kernel_rfl) ?_
          refine J.ok (OK.ldBox S6 1 35 4 3 (.bool o) (by kernel_rfl) rfl (by kernel_rfl)) ?_
          refine J.run 3 K18_10 [(33, .bool (!o)), (8, .pointer (some ⟨b2, 0, none⟩)), (4, .pointer (some ⟨b1, 0, none⟩)), (1, .int .i64 now), (2, .int .i64 x), (3, .slice la len cap)] w6 (by kernel_rfl) ?_
          rcases Bool.eq_false_or_eq_true o with fk5 | fk5
          · skip
            refine J.head (.bool false) (congrArg Value.bool (by rw [fk5]; rfl)) ?_
            refine J.run 5 K18_11 [(40, .pointer (some ⟨b1, 1, none⟩)), (39, .int .i64 now), (8, .pointer (some ⟨b2, 0, none⟩)), (4, .pointer (some ⟨b1, 0, none⟩)), (1, .int .i64 now), (2, .int .i64 x), (3, .slice la len cap)] w6 (by kernel_rfl) ?_
            refine J.ok (OK.ldBox S6 1 41 3 1 (.int .i64 a) (by kernel_rfl) rfl (by kernel_rfl)) ?_
            refine J.run 3 K18_12 [(38, .bool (decide (now < a))), (8, .pointer (some ⟨b2, 0, none⟩)), (4, .pointer (some ⟨b1, 0, none⟩)), (1, .int .i64 now), (2, .int .i64 x), (3, .slice la len cap)] w6 (by kernel_rfl) ?_
            by_cases fk6 : now < a
            · skip
              refine J.head (.bool true) (congrArg Value.bool (decide_eq_true fk6)) ?_
              refine J.run 4 K18_13 [(43, .agg #[.int .i64 0, .int .i64 0, .int .i64 0, .bool false, .bool false]), (8, .pointer (some ⟨b2, 0, none⟩))] w6 (by kernel_rfl) ?_
              refine J.stBox S6 0 31 0 (.agg #[.int .i64 0, .int .i64 0, .int .i64 0, .bool false, .bool false]) [.int .i64 0, .int .i64 0, .int .i64 0, .bool false, .bool false] [box b2 [.int .i64 0, .int .i64 0, .int .i64 0, .bool false, .bool false] 31, box b1 [.int .i64 q, .int .i64 a, .int .i64 e, .bool o, .bool f] 31] (by kernel_rfl) rfl (by kernel_rfl) (by kernel_rfl) rfl ?_
              intro w7 S7
              refine J.run 2 K18_14 [(9, .int .i64 16), (8, .pointer (some ⟨b2, 0, none⟩))] w7 (by kernel_rfl) ?_
              refine J.ret Try.f18 [.agg #[.int .i64 0, .int .i64 0, .int .i64 0, .bool false, .bool false], .int .i64 16] Try.func18 ⟨⟨⟨b2, 0, none⟩, by kernel_rfl, ldV_run (S7.nth 0 rfl) (by kernel_rfl)⟩, by kernel_rfl, trivial⟩ ?_
              refine hR _ _ ?_
              exact ⟨by (try simp only [replyV, replyR, zeroQ, tup_one, tup_two, tup_three, fk1, fk2, fk3, fk4, fk6, (decide_eq_true fk6)]) <;> simp [replyV, replyR, zeroQ, tup_one, tup_two, tup_three, fk1, fk2, fk3, fk4, fk6, (decide_eq_true fk6), fk5], S7.nil⟩
            · skip
              refine J.head (.bool false) (congrArg Value.bool (decide_eq_false fk6)) ?_
              refine J.run 6 K18_15 [(45, .pointer (some ⟨b1, 0, none⟩)), (8, .pointer (some ⟨b2, 0, none⟩)), (4, .pointer (some ⟨b1, 0, none⟩)), (1, .int .i64 now), (2, .int .i64 x), (3, .slice la len cap)] w6 (by kernel_rfl) ?_
              refine J.ok (OK.ldBox S6 1 46 3 0 (.int .i64 q) (by kernel_rfl) rfl (by kernel_rfl)) ?_
              refine J.run 1 K18_16 [(47, .slice la len cap), (46, .int .i64 q), (8, .pointer (some ⟨b2, 0, none⟩)), (4, .pointer (some ⟨b1, 0, none⟩)), (1, .int .i64 now), (2, .int .i64 x)] w6 (by kernel_rfl) ?_
              have fk7 : (questionB q) = true := questionB_iff.2 (by omega)
              refine J.callF 48 10 #[.int .i64 q, .slice la len cap] hb10 (by kernel_rfl) (answer_any q la len cap l _ (hI.sep S6) (by omega)) ?_
              rintro _ w8 ⟨rfl, T5⟩
              have S8 : Sep w [box b2 [.int .i64 0, .int .i64 0, .int .i64 0, .bool false, .bool false] 31, box b1 [.int .i64 q, .int .i64 a, .int .i64 e, .bool o, .bool f] 31] w8 := S6.trans T5
              clear T5 S6
              refine J.head (.tuple #[.int .i64 (ansF q l), .int .i64 0]) (by first | (simp only [ansV, fk2, fk7, reduceCtorEq, ↓reduceIte]; done) | simp [ansV, fk2, fk7]) ?_
              refine J.run 10 K18_17 [(52, .pointer (some ⟨b1, 1, none⟩)), (51, .int .i64 now), (10, .int .i64 (ansF q l)), (8, .pointer (some ⟨b2, 0, none⟩)), (4, .pointer (some ⟨b1, 0, none⟩)), (2, .int .i64 x)] w8 (by kernel_rfl) ?_
              refine J.ok (OK.ldBox S8 1 53 3 1 (.int .i64 a) (by kernel_rfl) rfl (by kernel_rfl)) ?_
              refine J.run 1 K18_18 [(54, .int .i64 (IntKind.wrap .i64 (now - a))), (10, .int .i64 (ansF q l)), (8, .pointer (some ⟨b2, 0, none⟩)), (4, .pointer (some ⟨b1, 0, none⟩)), (2, .int .i64 x)] w8 (by kernel_rfl) ?_
              refine J.head (.int .i64 (now - a)) (congrArg (Value.int .i64) (IntWalk.i64_in _ (by omega))) ?_
              refine J.run 4 K18_19 [(12, .int .i64 (now - a)), (10, .int .i64 (ansF q l)), (8, .pointer (some ⟨b2, 0, none⟩)), (4, .pointer (some ⟨b1, 0, none⟩)), (2, .int .i64 x)] w8 (by kernel_rfl) ?_
              refine J.ok (OK.ldBox S8 1 55 31 0 (.agg #[.int .i64 q, .int .i64 a, .int .i64 e, .bool o, .bool f]) (by kernel_rfl) rfl (by kernel_rfl)) ?_
              refine J.run 4 K18_20 [(59, .bool ((ansF q l) == x)), (55, .agg #[.int .i64 q, .int .i64 a, .int .i64 e, .bool o, .bool f]), (12, .int .i64 (now - a)), (8, .pointer (some ⟨b2, 0, none⟩))] w8 (by kernel_rfl) ?_
              by_cases fk8 : (ansF q l) = x
              · skip
                refine J.head (.bool true) (congrArg Value.bool (beq_iff_eq.2 fk8)) ?_
                refine J.run 4 K18_21 [(63, .bool (decide ((now - a) ≥ 10000))), (55, .agg #[.int .i64 q, .int .i64 a, .int .i64 e, .bool o, .bool f]), (12, .int .i64 (now - a)), (8, .pointer (some ⟨b2, 0, none⟩))] w8 (by kernel_rfl) ?_
                by_cases fk9 : (now - a) ≥ 10000
                · skip
                  refine J.head (.bool true) (congrArg Value.bool (decide_eq_true fk9)) ?_
                  refine J.run 3 K18_22 [(66, .bool (decide ((now - a) ≤ 20000))), (55, .agg #[.int .i64 q, .int .i64 a, .int .i64 e, .bool o, .bool f]), (8, .pointer (some ⟨b2, 0, none⟩))] w8 (by kernel_rfl) ?_
                  refine J.callF 67 29 #[.agg #[.int .i64 q, .int .i64 a, .int .i64 e, .bool o, .bool f], .bool (decide ((now - a) ≤ 20000))] hb29 (by kernel_rfl) (end_any q a e o f (decide ((now - a) ≤ 20000)) _ (by omega)) ?_
                  rintro _ w9 ⟨rfl, T6⟩
                  have S9 : Sep w [box b2 [.int .i64 0, .int .i64 0, .int .i64 0, .bool false, .bool false] 31, box b1 [.int .i64 q, .int .i64 a, .int .i64 e, .bool o, .bool f] 31] w9 := S8.trans T6
                  clear T6 S8
                  refine J.stBox S9 0 31 0 (.agg #[.int .i64 q, .int .i64 0, .int .i64 (endE e (decide ((now - a) ≤ 20000))), .bool false, .bool ((endE e (decide ((now - a) ≤ 20000))) == 7)]) [.int .i64 q, .int .i64 0, .int .i64 (endE e (decide ((now - a) ≤ 20000))), .bool false, .bool ((endE e (decide ((now - a) ≤ 20000))) == 7)] [box b2 [.int .i64 q, .int .i64 0, .int .i64 (endE e (decide ((now - a) ≤ 20000))), .bool false, .bool ((endE e (decide ((now - a) ≤ 20000))) == 7)] 31, box b1 [.int .i64 q, .int .i64 a, .int .i64 e, .bool o, .bool f] 31] (by kernel_rfl) rfl (by kernel_rfl) (by kernel_rfl) rfl ?_
                  intro w10 S10
                  refine J.run 2 K18_23 [(9, .int .i64 0), (8, .pointer (some ⟨b2, 0, none⟩))] w10 (by kernel_rfl) ?_
                  refine J.ret Try.f18 [.agg #[.int .i64 q, .int .i64 0, .int .i64 (endE e (decide ((now - a) ≤ 20000))), .bool false, .bool ((endE e (decide ((now - a) ≤ 20000))) == 7)], .int .i64 0] Try.func18 ⟨⟨⟨b2, 0, none⟩, by kernel_rfl, ldV_run (S10.nth 0 rfl) (by kernel_rfl)⟩, by kernel_rfl, trivial⟩ ?_
                  refine hR _ _ ?_
                  exact ⟨by (try simp only [replyV, replyR, zeroQ, tup_one, tup_two, tup_three, fk1, fk2, fk3, fk4, fk6, (decide_eq_false fk6), fk7, (beq_iff_eq.2 fk8), (beq_iff_eq.2 (Eq.symm fk8)), fk8, fk9, (decide_eq_true fk9)]) <;> simp [replyV, replyR, zeroQ, tup_one, tup_two, tup_three, fk1, fk2, fk3, fk4, fk6, (decide_eq_false fk6), fk7, (beq_iff_eq.2 fk8), (beq_iff_eq.2 (Eq.symm fk8)), fk8, fk9, (decide_eq_true fk9), fk5], S10.nil⟩
                · skip
                  refine J.head (.bool false) (congrArg Value.bool (decide_eq_false fk9)) ?_
                  refine J.run 3 K18_24 [(66, .bool false), (55, .agg #[.int .i64 q, .int .i64 a, .int .i64 e, .bool o, .bool f]), (8, .pointer (some ⟨b2, 0, none⟩))] w8 (by kernel_rfl) ?_
                  refine J.callF 67 29 #[.agg #[.int .i64 q, .int .i64 a, .int .i64 e, .bool o, .bool f], .bool false] hb29 (by kernel_rfl) (end_any q a e o f false _ (by omega)) ?_
                  rintro _ w11 ⟨rfl, T7⟩
                  have S11 : Sep w [box b2 [.int .i64 0, .int .i64 0, .int .i64 0, .bool false, .bool false] 31, box b1 [.int .i64 q, .int .i64 a, .int .i64 e, .bool o, .bool f] 31] w11 := S8.trans T7
                  clear T7 S8
                  refine J.stBox S11 0 31 0 (.agg #[.int .i64 q, .int .i64 0, .int .i64 (endE e false), .bool false, .bool ((endE e false) == 7)]) [.int .i64 q, .int .i64 0, .int .i64 (endE e false), .bool false, .bool ((endE e false) == 7)] [box b2 [.int .i64 q, .int .i64 0, .int .i64 (endE e false), .bool false, .bool ((endE e false) == 7)] 31, box b1 [.int .i64 q, .int .i64 a, .int .i64 e, .bool o, .bool f] 31] (by kernel_rfl) rfl (by kernel_rfl) (by kernel_rfl) rfl ?_
                  intro w12 S12
                  refine J.run 2 K18_25 [(9, .int .i64 0), (8, .pointer (some ⟨b2, 0, none⟩))] w12 (by kernel_rfl) ?_
                  refine J.ret Try.f18 [.agg #[.int .i64 q, .int .i64 0, .int .i64 (endE e false), .bool false, .bool ((endE e false) == 7)], .int .i64 0] Try.func18 ⟨⟨⟨b2, 0, none⟩, by kernel_rfl, ldV_run (S12.nth 0 rfl) (by kernel_rfl)⟩, by kernel_rfl, trivial⟩ ?_
                  refine hR _ _ ?_
                  exact ⟨by (try simp only [replyV, replyR, zeroQ, tup_one, tup_two, tup_three, fk1, fk2, fk3, fk4, fk6, (decide_eq_false fk6), fk7, (beq_iff_eq.2 fk8), (beq_iff_eq.2 (Eq.symm fk8)), fk8, fk9, (decide_eq_false fk9)]) <;> simp [replyV, replyR, zeroQ, tup_one, tup_two, tup_three, fk1, fk2, fk3, fk4, fk6, (decide_eq_false fk6), fk7, (beq_iff_eq.2 fk8), (beq_iff_eq.2 (Eq.symm fk8)), fk8, fk9, (decide_eq_false fk9), fk5], S12.nil⟩
              · skip
                refine J.head (.bool false) (congrArg Value.bool (beq_eq_false_iff_ne.2 fk8)) ?_
                refine J.run 7 K18_26 [(66, .bool false), (55, .agg #[.int .i64 q, .int .i64 a, .int .i64 e, .bool o, .bool f]), (8, .pointer (some ⟨b2, 0, none⟩))] w8 (by kernel_rfl) ?_
                refine J.callF 67 29 #[.agg #[.int .i64 q, .int .i64 a, .int .i64 e, .bool o, .bool f], .bool false] hb29 (by kernel_rfl) (end_any q a e o f false _ (by omega)) ?_
                rintro _ w13 ⟨rfl, T8⟩
                have S13 : Sep w [box b2 [.int .i64 0, .int .i64 0, .int .i64 0, .bool false, .bool false] 31, box b1 [.int .i64 q, .int .i64 a, .int .i64 e, .bool o, .bool f] 31] w13 := S8.trans T8
                clear T8 S8
                refine J.stBox S13 0 31 0 (.agg #[.int .i64 q, .int .i64 0, .int .i64 (endE e false), .bool false, .bool ((endE e false) == 7)]) [.int .i64 q, .int .i64 0, .int .i64 (endE e false), .bool false, .bool ((endE e false) == 7)] [box b2 [.int .i64 q, .int .i64 0, .int .i64 (endE e false), .bool false, .bool ((endE e false) == 7)] 31, box b1 [.int .i64 q, .int .i64 a, .int .i64 e, .bool o, .bool f] 31] (by kernel_rfl) rfl (by kernel_rfl) (by kernel_rfl) rfl ?_
                intro w14 S14
                refine J.run 2 K18_27 [(9, .int .i64 0), (8, .pointer (some ⟨b2, 0, none⟩))] w14 (by kernel_rfl) ?_
                refine J.ret Try.f18 [.agg #[.int .i64 q, .int .i64 0, .int .i64 (endE e false), .bool false, .bool ((endE e false) == 7)], .int .i64 0] Try.func18 ⟨⟨⟨b2, 0, none⟩, by kernel_rfl, ldV_run (S14.nth 0 rfl) (by kernel_rfl)⟩, by kernel_rfl, trivial⟩ ?_
                refine hR _ _ ?_
                exact ⟨by (try simp only [replyV, replyR, zeroQ, tup_one, tup_two, tup_three, fk1, fk2, fk3, fk4, fk6, (decide_eq_false fk6), fk7, fk8, (beq_eq_false_iff_ne.2 fk8), (beq_eq_false_iff_ne.2 (Ne.symm fk8))]) <;> simp [replyV, replyR, zeroQ, tup_one, tup_two, tup_three, fk1, fk2, fk3, fk4, fk6, (decide_eq_false fk6), fk7, fk8, (beq_eq_false_iff_ne.2 fk8), (beq_eq_false_iff_ne.2 (Ne.symm fk8)), fk5], S14.nil⟩
          · skip
            refine J.head (.bool true) (congrArg Value.bool (by rw [fk5]; rfl)) ?_
            refine J.run 4 K18_28 [(37, .agg #[.int .i64 0, .int .i64 0, .int .i64 0, .bool false, .bool false]), (8, .pointer (some ⟨b2, 0, none⟩))] w6 (by kernel_rfl) ?_
            refine J.stBox S6 0 31 0 (.agg #[.int .i64 0, .int .i64 0, .int .i64 0, .bool false, .bool false]) [.int .i64 0, .int .i64 0, .int .i64 0, .bool false, .bool false] [box b2 [.int .i64 0, .int .i64 0, .int .i64 0, .bool false, .bool false] 31, box b1 [.int .i64 q, .int .i64 a, .int .i64 e, .bool o, .bool f] 31] (by kernel_rfl) rfl (by kernel_rfl) (by kernel_rfl) rfl ?_
            intro w15 S15
            refine J.run 2 K18_29 [(9, .int .i64 6), (8, .pointer (some ⟨b2, 0, none⟩))] w15 (by kernel_rfl) ?_
            refine J.ret Try.f18 [.agg #[.int .i64 0, .int .i64 0, .int .i64 0, .bool false, .bool false], .int .i64 6] Try.func18 ⟨⟨⟨b2, 0, none⟩, by kernel_rfl, ldV_run (S15.nth 0 rfl) (by kernel_rfl)⟩, by kernel_rfl, trivial⟩ ?_
            refine hR _ _ ?_
            exact ⟨by (try simp only [replyV, replyR, zeroQ, tup_one, tup_two, tup_three, fk1, fk2, fk3, fk4]) <;> simp [replyV, replyR, zeroQ, tup_one, tup_two, tup_three, fk1, fk2, fk3, fk4, fk5], S15.nil⟩
        · skip
          refine J.head (.bool true) (congrArg Value.bool (by rw [fk4]; rfl)) ?_
          refine J.run 4 K18_30 [(32, .agg #[.int .i64 0, .int .i64 0, .int .i64 0, .bool false, .bool false]), (8, .pointer (some ⟨b2, 0, none⟩))] w6 (by kernel_rfl) ?_
          refine J.stBox S6 0 31 0 (.agg #[.int .i64 0, .int .i64 0, .int .i64 0, .bool false, .bool false]) [.int .i64 0, .int .i64 0, .int .i64 0, .bool false, .bool false] [box b2 [.int .i64 0, .int .i64 0, .int .i64 0, .bool false, .bool false] 31, box b1 [.int .i64 q, .int .i64 a, .int .i64 e, .bool o, .bool f] 31] (by kernel_rfl) rfl (by kernel_rfl) (by kernel_rfl) rfl ?_
          intro w16 S16
          refine J.run 2 K18_31 [(9, .int .i64 2), (8, .pointer (some ⟨b2, 0, none⟩))] w16 (by kernel_rfl) ?_
          refine J.ret Try.f18 [.agg #[.int .i64 0, .int .i64 0, .int .i64 0, .bool false, .bool false], .int .i64 2] Try.func18 ⟨⟨⟨b2, 0, none⟩, by kernel_rfl, ldV_run (S16.nth 0 rfl) (by kernel_rfl)⟩, by kernel_rfl, trivial⟩ ?_
          refine hR _ _ ?_
          exact ⟨by simp [replyV, replyR, zeroQ, tup_one, tup_two, tup_three, fk1, fk2, fk3, fk4], S16.nil⟩
      · skip
        refine J.head (.bool true) (congrArg Value.bool (by rw [fk3]; rfl)) ?_
        refine J.run 10 K18_32 [(32, .agg #[.int .i64 0, .int .i64 0, .int .i64 0, .bool false, .bool false]), (8, .pointer (some ⟨b2, 0, none⟩))] w5 (by kernel_rfl) ?_
        refine J.stBox S5 0 31 0 (.agg #[.int .i64 0, .int .i64 0, .int .i64 0, .bool false, .bool false]) [.int .i64 0, .int .i64 0, .int .i64 0, .bool false, .bool false] [box b2 [.int .i64 0, .int .i64 0, .int .i64 0, .bool false, .bool false] 31, box b1 [.int .i64 q, .int .i64 a, .int .i64 e, .bool o, .bool f] 31] (by kernel_rfl) rfl (by kernel_rfl) (by kernel_rfl) rfl ?_
        intro w17 S17
        refine J.run 2 K18_33 [(9, .int .i64 2), (8, .pointer (some ⟨b2, 0, none⟩))] w17 (by kernel_rfl) ?_
        refine J.ret Try.f18 [.agg #[.int .i64 0, .int .i64 0, .int .i64 0, .bool false, .bool false], .int .i64 2] Try.func18 ⟨⟨⟨b2, 0, none⟩, by kernel_rfl, ldV_run (S17.nth 0 rfl) (by kernel_rfl)⟩, by kernel_rfl, trivial⟩ ?_
        refine hR _ _ ?_
        exact ⟨by simp [replyV, replyR, zeroQ, tup_one, tup_two, tup_three, fk1, fk2, fk3], S17.nil⟩
    · skip
      refine J.head (.bool true) (congrArg Value.bool (by rw [fk2]; rfl)) ?_
      refine J.run 4 K18_34 [(22, .agg #[.int .i64 0, .int .i64 0, .int .i64 0, .bool false, .bool false]), (8, .pointer (some ⟨b2, 0, none⟩))] w4 (by kernel_rfl) ?_
      refine J.stBox S4 0 31 0 (.agg #[.int .i64 0, .int .i64 0, .int .i64 0, .bool false, .bool false]) [.int .i64 0, .int .i64 0, .int .i64 0, .bool false, .bool false] [box b2 [.int .i64 0, .int .i64 0, .int .i64 0, .bool false, .bool false] 31, box b1 [.int .i64 q, .int .i64 a, .int .i64 e, .bool o, .bool f] 31] (by kernel_rfl) rfl (by kernel_rfl) (by kernel_rfl) rfl ?_
      intro w18 S18
      refine J.run 2 K18_35 [(9, .int .i64 1), (8, .pointer (some ⟨b2, 0, none⟩))] w18 (by kernel_rfl) ?_
      refine J.ret Try.f18 [.agg #[.int .i64 0, .int .i64 0, .int .i64 0, .bool false, .bool false], .int .i64 1] Try.func18 ⟨⟨⟨b2, 0, none⟩, by kernel_rfl, ldV_run (S18.nth 0 rfl) (by kernel_rfl)⟩, by kernel_rfl, trivial⟩ ?_
      refine hR _ _ ?_
      exact ⟨by simp [replyV, replyR, zeroQ, tup_one, tup_two, tup_three, fk1, fk2], S18.nil⟩
  · skip
    refine J.head (.bool true) (congrArg Value.bool (by rw [fk1]; rfl)) ?_
    refine J.run 10 K18_36 [(22, .agg #[.int .i64 0, .int .i64 0, .int .i64 0, .bool false, .bool false]), (8, .pointer (some ⟨b2, 0, none⟩))] w3 (by kernel_rfl) ?_
    refine J.stBox S3 0 31 0 (.agg #[.int .i64 0, .int .i64 0, .int .i64 0, .bool false, .bool false]) [.int .i64 0, .int .i64 0, .int .i64 0, .bool false, .bool false] [box b2 [.int .i64 0, .int .i64 0, .int .i64 0, .bool false, .bool false] 31, box b1 [.int .i64 q, .int .i64 a, .int .i64 e, .bool o, .bool f] 31] (by kernel_rfl) rfl (by kernel_rfl) (by kernel_rfl) rfl ?_
    intro w19 S19
    refine J.run 2 K18_37 [(9, .int .i64 1), (8, .pointer (some ⟨b2, 0, none⟩))] w19 (by kernel_rfl) ?_
    refine J.ret Try.f18 [.agg #[.int .i64 0, .int .i64 0, .int .i64 0, .bool false, .bool false], .int .i64 1] Try.func18 ⟨⟨⟨b2, 0, none⟩, by kernel_rfl, ldV_run (S19.nth 0 rfl) (by kernel_rfl)⟩, by kernel_rfl, trivial⟩ ?_
    refine hR _ _ ?_
    exact ⟨by simp [replyV, replyR, zeroQ, tup_one, tup_two, tup_three, fk1], S19.nil⟩

end Go.Proofs.Ytjlmkdaeabjeoaa
