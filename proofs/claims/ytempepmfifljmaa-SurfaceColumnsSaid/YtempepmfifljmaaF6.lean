/- Walks of functions of this seat, printed by a program over the engine. Conditions: as each theorem says. -/
import Derived.Test.YtempepmfifljmaaA5
namespace Go.Proofs.Ytempepmfifljmaa
open Go.Eng Go.RowKit
set_option linter.unusedSimpArgs false
set_option linter.unusedVariables false
structure Rw where
  gS_a : Option Addr
  gS_n : Nat
  gS_c : Nat
  gS_l : List Int
def rwE (x : Rw) : List Value := [.slice x.gS_a x.gS_n x.gS_c]
def rwQ (w : World) (x : Rw) : Prop := (x.gS_n ≤ x.gS_c ∧ x.gS_c ≤ 9223372036854775807) ∧ Ones (Value.int .i64) w x.gS_a x.gS_n x.gS_l ∧ (∀ y ∈ x.gS_l, (fun n => (-9223372036854775808) ≤ n ∧ n ≤ 9223372036854775807) y) ∧ True
theorem rwQ_sep {w0 w : World} {L : List Eng.Claim} {x : Rw} (h : rwQ w0 x) (S : Sep w0 L w) : rwQ w x := by
  obtain ⟨hgS1, hgS2, hgS3, _⟩ := h
  exact ⟨hgS1, hgS2.sep S, hgS3, trivial⟩
structure Mp where
  gX_a : Option Addr
  gX_n : Nat
  gX_c : Nat
  gX_l : List Int
  gY_a : Option Addr
  gY_n : Nat
  gY_c : Nat
  gY_l : List Int
  gZ_a : Option Addr
  gZ_n : Nat
  gZ_c : Nat
  gZ_l : List Rw
def mpE (x : Mp) : List Value := [.slice x.gX_a x.gX_n x.gX_c, .slice x.gY_a x.gY_n x.gY_c, .slice x.gZ_a x.gZ_n x.gZ_c]
def mpQ (w : World) (x : Mp) : Prop := (x.gX_n ≤ x.gX_c ∧ x.gX_c ≤ 9223372036854775807) ∧ Ones (Value.int .i64) w x.gX_a x.gX_n x.gX_l ∧ (∀ y ∈ x.gX_l, (fun n => (-9223372036854775808) ≤ n ∧ n ≤ 9223372036854775807) y) ∧ (x.gY_n ≤ x.gY_c ∧ x.gY_c ≤ 9223372036854775807) ∧ Ones (Value.int .i64) w x.gY_a x.gY_n x.gY_l ∧ (∀ y ∈ x.gY_l, (fun n => (-9223372036854775808) ≤ n ∧ n ≤ 9223372036854775807) y) ∧ (x.gZ_n ≤ x.gZ_c ∧ x.gZ_c ≤ 9223372036854775807) ∧ Recs rwE 1 w x.gZ_a x.gZ_n x.gZ_l ∧ (∀ y ∈ x.gZ_l, (rwQ w) y) ∧ True
theorem mpQ_sep {w0 w : World} {L : List Eng.Claim} {x : Mp} (h : mpQ w0 x) (S : Sep w0 L w) : mpQ w x := by
  obtain ⟨hgX1, hgX2, hgX3, hgY1, hgY2, hgY3, hgZ1, hgZ2, hgZ3, _⟩ := h
  exact ⟨hgX1, hgX2.sep S, hgX3, hgY1, hgY2.sep S, hgY3, hgZ1, hgZ2.sep S, fun y hy => rwQ_sep (hgZ3 y hy) S, trivial⟩

def elB (n : Int) : Bool := decide (-1073741824 ≤ n) && decide (n ≤ 1073741824)
theorem elB_iff {n : Int} : elB n = true ↔ -1073741824 ≤ n ∧ n ≤ 1073741824 := by simp [elB]
theorem elB_not {n : Int} (h : elB n = false) : n < -1073741824 ∨ 1073741824 < n := by simp [elB] at h; omega
def nodeB (l : List Int) (i : Nat) : Bool := elB (l.getD i 0) && (i == 0 || decide (l.getD (i - 1) 0 < l.getD i 0))
def axisB (l : List Int) : Bool := decide (2 ≤ l.length) && decide (l.length ≤ 32) && (List.range l.length).all (nodeB l)
theorem all_range_false {n j : Nat} {p : Nat → Bool} (h : j < n) (hp : p j = false) : (List.range n).all p = false := by
  rw [List.all_eq_false]; exact ⟨j, by simpa using h, by simp [hp]⟩
theorem all_range_true {n : Nat} {p : Nat → Bool} (h : ∀ j, j < n → p j = true) : (List.range n).all p = true := by
  rw [List.all_eq_true]; intro j hj; exact h j (by simpa using hj)
theorem all_step {q : Nat → Prop} {i : Int} (h0 : 0 ≤ i) (hq : ∀ k, k < i.toNat → q k) (h : q i.toNat) : ∀ k, k < (i + 1).toNat → q k := by
  intro k hk
  by_cases e : k = i.toNat
  · subst e; exact h
  · exact hq k (by omega)
theorem node_yes {l : List Int} {i : Int} (h0 : 0 ≤ i) (h : elB (l.getD i.toNat 0) = true) (h2 : i = 0 ∨ l.getD (i - 1).toNat 0 < l.getD i.toNat 0) : nodeB l i.toNat = true := by
  unfold nodeB
  rw [h, Bool.true_and, Bool.or_eq_true]
  rcases h2 with h2 | h2
  · left; subst h2; rfl
  · right; rw [show i.toNat - 1 = (i - 1).toNat by omega]; exact decide_eq_true h2
theorem node_no {l : List Int} {i : Int} (h0 : 0 ≤ i) (h : elB (l.getD i.toNat 0) = false ∨ (0 < i ∧ l.getD i.toNat 0 ≤ l.getD (i - 1).toNat 0)) : nodeB l i.toNat = false := by
  unfold nodeB
  rcases h with h | ⟨h1, h2⟩
  · rw [h]; rfl
  · rw [beq_eq_false_iff_ne.2 (show i.toNat ≠ 0 by omega), Bool.false_or, show i.toNat - 1 = (i - 1).toNat by omega, decide_eq_false (by omega), Bool.and_false]
theorem axis_no {l : List Int} (h : l.length < 2 ∨ 32 < l.length) : axisB l = false := by
  unfold axisB
  rcases h with h | h
  · rw [decide_eq_false (by omega)]; rfl
  · rw [decide_eq_false (show ¬ l.length ≤ 32 by omega)]; simp
theorem axis_bad {l : List Int} {i : Int} (h0 : 0 ≤ i) (hi : i < (l.length : Int)) (h : nodeB l i.toNat = false) : axisB l = false := by
  unfold axisB; rw [all_range_false (j := i.toNat) (by omega) h]; simp
theorem axis_yes {l : List Int} (h1 : 2 ≤ l.length) (h2 : l.length ≤ 32) (h : ∀ j, j < l.length → nodeB l j = true) : axisB l = true := by
  unfold axisB; rw [decide_eq_true h1, decide_eq_true h2, all_range_true h]; rfl
theorem axis_facts {l : List Int} (h : axisB l = true) : (2 ≤ l.length ∧ l.length ≤ 32) ∧ (∀ j, j < l.length → -1073741824 ≤ l.getD j 0 ∧ l.getD j 0 ≤ 1073741824) ∧ ∀ j, j + 1 < l.length → l.getD j 0 < l.getD (j + 1) 0 := by
  simp only [axisB, Bool.and_eq_true, decide_eq_true_eq, List.all_eq_true, List.mem_range] at h
  obtain ⟨⟨h1, h2⟩, h3⟩ := h
  refine ⟨⟨h1, h2⟩, fun j hj => ?_, fun j hj => ?_⟩
  · have := h3 j hj
    simp only [nodeB, Bool.and_eq_true] at this
    exact elB_iff.1 this.1
  · have := h3 (j + 1) hj
    simp only [nodeB, Bool.and_eq_true, Bool.or_eq_true, beq_iff_eq, decide_eq_true_eq, Nat.add_sub_cancel] at this
    rcases this.2 with h4 | h4
    · omega
    · exact h4
theorem axis_mono {l : List Int} (h : axisB l = true) {i j : Nat} (hij : i < j) (hj : j < l.length) : l.getD i 0 < l.getD j 0 := by
  obtain ⟨_, _, h3⟩ := axis_facts h
  induction j with
  | zero => omega
  | succ j ih =>
    have := h3 j hj
    by_cases e : i = j
    · subst e; exact this
    · have := ih (by omega) (by omega); omega
def rowB (n : Nat) (r : Rw) : Bool := r.gS_n == n && r.gS_l.all elB
def validM (m : Mp) : Bool := axisB m.gX_l && axisB m.gY_l && m.gZ_n == m.gX_n && m.gZ_l.all (rowB m.gY_n)
def rw0 : Rw := ⟨none, 0, 0, []⟩
theorem row_no {n : Nat} {r : Rw} (h : r.gS_n ≠ n ∨ r.gS_l.all elB = false) : rowB n r = false := by
  unfold rowB
  rcases h with h | h
  · rw [beq_eq_false_iff_ne.2 h]; rfl
  · rw [h, Bool.and_false]
theorem row_yes {n : Nat} {r : Rw} (h : r.gS_n = n) (h2 : r.gS_l.all elB = true) : rowB n r = true := by unfold rowB; rw [h, h2]; simp
theorem getD_mem {α : Type} {l : List α} {n : Nat} (d : α) (h : n < l.length) : l.getD n d ∈ l := by
  rw [List.getD_eq_getElem?_getD, List.getElem?_eq_getElem h]; exact List.getElem_mem h
theorem all_getD {α : Type} {l : List α} {q : α → Bool} (d : α) : l.all q = true ↔ ∀ j, j < l.length → q (l.getD j d) = true := by
  rw [List.all_eq_true]
  constructor
  · intro h j hj; exact h _ (getD_mem d hj)
  · intro h x hx
    obtain ⟨j, hj, rfl⟩ := List.mem_iff_getElem.1 hx
    have := h j hj
    simpa [List.getD, hj] using this
theorem all_no {α : Type} {l : List α} {q : α → Bool} (d : α) {j : Nat} (hj : j < l.length) (h : q (l.getD j d) = false) : l.all q = false := by
  rw [List.all_eq_false]; exact ⟨_, getD_mem d hj, by rw [h]; simp⟩
theorem any_not_all {α : Type} (q : α → Bool) (l : List α) : (l.any fun x => !q x) = !l.all q := by rw [← List.not_all_eq_any_not]
theorem valid_no {m : Mp} (h : axisB m.gX_l = false ∨ axisB m.gY_l = false ∨ m.gZ_n ≠ m.gX_n) : validM m = false := by
  unfold validM
  rcases h with h | h | h
  · rw [h]; rfl
  · rw [h]; simp
  · rw [beq_eq_false_iff_ne.2 h]; simp
theorem valid_bad {m : Mp} {i : Int} (h0 : 0 ≤ i) (hi : i < (m.gZ_l.length : Int)) (h : rowB m.gY_n (m.gZ_l.getD i.toNat rw0) = false) : validM m = false := by
  unfold validM; rw [all_no rw0 (by omega) h]; simp
theorem valid_yes {m : Mp} (h1 : axisB m.gX_l = true) (h2 : axisB m.gY_l = true) (h3 : m.gZ_n = m.gX_n) (h : ∀ j, j < m.gZ_l.length → rowB m.gY_n (m.gZ_l.getD j rw0) = true) : validM m = true := by
  unfold validM; rw [h1, h2, h3, (all_getD rw0).2 h]; simp
theorem valid_facts {m : Mp} (h : validM m = true) : axisB m.gX_l = true ∧ axisB m.gY_l = true ∧ m.gZ_n = m.gX_n ∧ ∀ j, j < m.gZ_l.length → (m.gZ_l.getD j rw0).gS_n = m.gY_n ∧ ∀ k, k < (m.gZ_l.getD j rw0).gS_l.length → -1073741824 ≤ (m.gZ_l.getD j rw0).gS_l.getD k 0 ∧ (m.gZ_l.getD j rw0).gS_l.getD k 0 ≤ 1073741824 := by
  simp only [validM, Bool.and_eq_true, beq_iff_eq] at h
  obtain ⟨⟨⟨h1, h2⟩, h3⟩, h4⟩ := h
  refine ⟨h1, h2, h3, fun j hj => ?_⟩
  have h5 := (all_getD rw0).1 h4 j hj
  simp only [rowB, Bool.and_eq_true, beq_iff_eq] at h5
  exact ⟨h5.1, fun k hk => elB_iff.1 ((all_getD 0).1 h5.2 k hk)⟩
def zF (m : Mp) (i j : Nat) : Int := (m.gZ_l.getD i rw0).gS_l.getD j 0

theorem hb40 : HasBody Try.prog 40 := fun _ _ => by kernel_rfl
noncomputable def K40_0 : List Item := adv 9 [] (bodyOf Try.f40)
noncomputable def K40_1 : List Item := adv 5 [] K40_0
noncomputable def K40_2 : List Item := adv 5 [] K40_0
set_option maxRecDepth 20000 in
set_option maxHeartbeats 20000000 in
theorem element_any (n : Int) (w : World) : Ret Try.prog 40 #[.int .i64 n] w (fun v w' => v = .bool (elB n) ∧ Sep w [] w') := by
  have S0 := Sep.refl w
  refine Ret.named fun R hR => ?_
  refine Ret.of_J (N := 9) [(0, .int .i64 n)] Try.func40 rfl rfl (Nat.le_of_ble_eq_true (by kernel_rfl)) (by kernel_rfl) ?_
  refine J.run 9 K40_0 [(5, .bool (decide (n ≥ (-1073741824)))), (0, .int .i64 n)] w (by kernel_rfl) ?_
  by_cases fk1 : n ≥ (-1073741824)
  · skip
    refine J.head (.bool true) (congrArg Value.bool (decide_eq_true fk1)) ?_
    refine J.run 5 K40_1 [(2, .bool (decide (n ≤ 1073741824)))] w (by kernel_rfl) ?_
    refine J.ret Try.f40 [.bool (decide (n ≤ 1073741824))] Try.func40 ⟨by kernel_rfl, trivial⟩ ?_
    refine hR _ _ ?_
    exact ⟨congrArg Value.bool (by rw [Bool.eq_iff_iff]; simp [elB]; omega), S0.nil⟩
  · skip
    refine J.head (.bool false) (congrArg Value.bool (decide_eq_false fk1)) ?_
    refine J.run 5 K40_2 [(2, .bool false)] w (by kernel_rfl) ?_
    refine J.ret Try.f40 [.bool false] Try.func40 ⟨by kernel_rfl, trivial⟩ ?_
    refine hR _ _ ?_
    exact ⟨congrArg Value.bool (by rw [Bool.eq_iff_iff]; simp [elB]; omega), S0.nil⟩

theorem hb42 : HasBody Try.prog 42 := fun _ _ => by kernel_rfl
noncomputable def K42_0 : List Item := adv 9 [] (bodyOf Try.f42)
noncomputable def K42_1 : List Item := adv 5 [] K42_0
noncomputable def K42_2 : List Item := adv 5 [] K42_0
set_option maxRecDepth 20000 in
set_option maxHeartbeats 20000000 in
theorem far_any (n : Int) (w : World) : Ret Try.prog 42 #[.int .i64 n] w (fun v w' => v = .bool (!elB n) ∧ Sep w [] w') := by
  have S0 := Sep.refl w
  refine Ret.named fun R hR => ?_
  refine Ret.of_J (N := 9) [(0, .int .i64 n)] Try.func42 rfl rfl (Nat.le_of_ble_eq_true (by kernel_rfl)) (by kernel_rfl) ?_
  refine J.run 9 K42_0 [(5, .bool (decide (n < (-1073741824)))), (0, .int .i64 n)] w (by kernel_rfl) ?_
  by_cases fk1 : n < (-1073741824)
  · skip
    refine J.head (.bool true) (congrArg Value.bool (decide_eq_true fk1)) ?_
    refine J.run 5 K42_1 [(2, .bool true)] w (by kernel_rfl) ?_
    refine J.ret Try.f42 [.bool true] Try.func42 ⟨by kernel_rfl, trivial⟩ ?_
    refine hR _ _ ?_
    exact ⟨congrArg Value.bool (by rw [Bool.eq_iff_iff]; simp [elB]; omega), S0.nil⟩
  · skip
    refine J.head (.bool false) (congrArg Value.bool (decide_eq_false fk1)) ?_
    refine J.run 5 K42_2 [(2, .bool (decide (n > 1073741824)))] w (by kernel_rfl) ?_
    refine J.ret Try.f42 [.bool (decide (n > 1073741824))] Try.func42 ⟨by kernel_rfl, trivial⟩ ?_
    refine hR _ _ ?_
    exact ⟨congrArg Value.bool (by rw [Bool.eq_iff_iff]; simp [elB]; omega), S0.nil⟩

theorem hb37 : HasBody Try.prog 37 := fun _ _ => by kernel_rfl
noncomputable def K37_0 : List Item := adv 11 [] (bodyOf Try.f37)
noncomputable def K37_1 : List Item := adv 10 [true] K37_0
noncomputable def K37_2 : List Item := adv 5 [] K37_0
noncomputable def K37_3 : List Item := adv 5 [true] K37_2
noncomputable def K37_4 : List Item := adv 11 [false] K37_2
noncomputable def K37_5 : List Item := adv 5 [] K37_4
noncomputable def K37_6 : List Item := adv 7 [true] K37_5
noncomputable def K37_7 : List Item := adv 6 [] (popK (popK K37_6))
noncomputable def K37_8 : List Item := adv 2 [] (popK K37_7)
noncomputable def K37_9 : List Item := adv 3 [] K37_8
noncomputable def K37_10 : List Item := adv 4 [] K37_9
noncomputable def K37_11 : List Item := adv 4 [] (popK (popK K37_10))
noncomputable def K37_12 : List Item := adv 5 [true] K37_11
noncomputable def K37_13 : List Item := adv 5 [false] K37_11
noncomputable def K37_14 : List Item := adv 15 [false] K37_9
noncomputable def K37_15 : List Item := adv 18 [true] K37_8
noncomputable def K37_16 : List Item := adv 6 [false] K37_5
set_option maxRecDepth 20000 in
set_option maxHeartbeats 20000000 in
theorem axis_any (la : Option Addr) (len cap : Nat) (l : List Int) (w : World) (hI : Ints w la len l) (hlen : len ≤ 9223372036854775807) : Ret Try.prog 37 #[.slice la len cap] w (fun v w' => v = .bool (axisB l) ∧ Sep w [] w') := by
  have S0 := Sep.refl w
  refine Ret.named fun R hR => ?_
  refine Ret.of_J (N := 37) [(0, .slice la len cap)] Try.func37 rfl rfl (Nat.le_of_ble_eq_true (by kernel_rfl)) (by kernel_rfl) ?_
  have hll := hI.len_eq
  refine J.run 11 K37_0 [(8, .bool (decide ((len : Int) < 2))), (0, .slice la len cap)] w (by kernel_rfl) ?_
  by_cases fk1 : (len : Int) < 2
  · skip
    refine J.head (.bool true) (congrArg Value.bool (decide_eq_true fk1)) ?_
    refine J.run 10 K37_1 [(2, .bool false)] w (by kernel_rfl) ?_
    refine J.ret Try.f37 [.bool false] Try.func37 ⟨by kernel_rfl, trivial⟩ ?_
    refine hR _ _ ?_
    exact ⟨congrArg Value.bool (axis_no (by omega)).symm, S0.nil⟩
  · skip
    refine J.head (.bool false) (congrArg Value.bool (decide_eq_false fk1)) ?_
    refine J.run 5 K37_2 [(12, .bool (decide ((len : Int) > 32))), (0, .slice la len cap)] w (by kernel_rfl) ?_
    by_cases fk2 : (len : Int) > 32
    · skip
      refine J.head (.bool true) (congrArg Value.bool (decide_eq_true fk2)) ?_
      refine J.run 5 K37_3 [(2, .bool false)] w (by kernel_rfl) ?_
      refine J.ret Try.f37 [.bool false] Try.func37 ⟨by kernel_rfl, trivial⟩ ?_
      refine hR _ _ ?_
      exact ⟨congrArg Value.bool (axis_no (by omega)).symm, S0.nil⟩
    · skip
      refine J.head (.bool false) (congrArg Value.bool (decide_eq_false fk2)) ?_
      refine J.run 11 K37_4 [(15, .int .i64 0), (14, .int .i64 (len : Int)), (13, .slice la len cap), (0, .slice la len cap)] w (by kernel_rfl) ?_
      have L37_1 : ∀ (mm_ : Nat) (i : Int) (w1 : World), (0 ≤ i) → (i ≤ (len : Int)) → (∀ j, j < (i).toNat → nodeB l j = true) → Sep w [] w1 → ((len : Int) - i).toNat = mm_ → J Try.prog 37 37 R K37_4 [(15, .int .i64 i), (14, .int .i64 (len : Int)), (13, .slice la len cap), (0, .slice la len cap)] w1 := by
        intro mm1
        induction mm1 using Nat.strongRecOn with
        | _ mm1 ih1 =>
        intro i w1 h0 h1 hq S1 hm1
        refine J.run 5 K37_5 [(16, .bool (decide (i < (len : Int)))), (15, .int .i64 i), (14, .int .i64 (len : Int)), (13, .slice la len cap), (0, .slice la len cap)] w1 (by kernel_rfl) ?_
        by_cases fk3 : i < (len : Int)
        · skip
          refine J.head (.bool true) (congrArg Value.bool (decide_eq_true fk3)) ?_
          refine J.run 7 K37_6 [(17, .int .i64 i), (15, .int .i64 i), (14, .int .i64 (len : Int)), (13, .slice la len cap), (0, .slice la len cap)] w1 (by kernel_rfl) ?_
          obtain ⟨p1, hp1, hc1⟩ := hI.at 0 (i).toNat (by omega)
          refine J.ok (OK.index 18 22 1 la p1 len (i).toNat i (p1.add (i).toNat) (by kernel_rfl) (by kernel_rfl) hp1 (by omega) (by omega) (by rw [Nat.mul_one])) ?_
          refine J.ok (OK.ldCell 19 3 (p1.add (i).toNat) (.int .i64 (l.getD (i).toNat 0)) (by kernel_rfl) (by kernel_rfl) (S1.cell hc1)) ?_
          refine J.run 6 K37_7 [(20, .int .i64 (l.getD (i).toNat 0)), (4, .int .i64 (l.getD (i).toNat 0)), (3, .int .i64 i), (15, .int .i64 i), (14, .int .i64 (len : Int)), (13, .slice la len cap), (0, .slice la len cap)] w1 (by kernel_rfl) ?_
          refine J.callF 21 40 #[.int .i64 (l.getD (i).toNat 0)] hb40 (by kernel_rfl) (element_any (l.getD (i).toNat 0) _) ?_
          rintro _ w2 ⟨rfl, T1⟩
          have S2 : Sep w [] w2 := S1.trans T1
          clear T1 S1
          refine J.run 2 K37_8 [(23, .bool (!(elB (l.getD (i).toNat 0)))), (4, .int .i64 (l.getD (i).toNat 0)), (3, .int .i64 i), (15, .int .i64 i), (14, .int .i64 (len : Int)), (13, .slice la len cap), (0, .slice la len cap)] w2 (by kernel_rfl) ?_
          rcases Bool.eq_false_or_eq_true (elB (l.getD (i).toNat 0)) with fk4 | fk4
          · skip
            refine J.head (.bool false) (congrArg Value.bool (by rw [fk4]; rfl)) ?_
            refine J.run 3 K37_9 [(26, .bool (decide (i > 0))), (23, .bool false), (4, .int .i64 (l.getD (i).toNat 0)), (3, .int .i64 i), (15, .int .i64 i), (14, .int .i64 (len : Int)), (13, .slice la len cap), (0, .slice la len cap)] w2 (by kernel_rfl) ?_
            by_cases fk5 : i > 0
            · skip
              refine J.head (.bool true) (congrArg Value.bool (decide_eq_true fk5)) ?_
              refine J.run 4 K37_10 [(30, .int .i64 (IntKind.wrap .i64 (i - 1))), (28, .slice la len cap), (27, .int .i64 (l.getD (i).toNat 0)), (26, .bool true), (23, .bool false), (15, .int .i64 i), (14, .int .i64 (len : Int)), (13, .slice la len cap), (0, .slice la len cap)] w2 (by kernel_rfl) ?_
              refine J.head (.int .i64 (i - 1)) (congrArg (Value.int .i64) (IntWalk.i64_in _ (by omega))) ?_
              obtain ⟨p2, hp2, hc2⟩ := hI.at 0 (i - 1).toNat (by omega)
              refine J.ok (OK.index 31 22 1 la p2 len (i - 1).toNat (i - 1) (p2.add (i - 1).toNat) (by kernel_rfl) (by kernel_rfl) hp2 (by omega) (by omega) (by rw [Nat.mul_one])) ?_
              refine J.ok (OK.ldCell 32 3 (p2.add (i - 1).toNat) (.int .i64 (l.getD (i - 1).toNat 0)) (by kernel_rfl) (by kernel_rfl) (S2.cell hc2)) ?_
              refine J.run 4 K37_11 [(35, .bool (decide ((l.getD (i).toNat 0) ≤ (l.getD (i - 1).toNat 0)))), (15, .int .i64 i), (14, .int .i64 (len : Int)), (13, .slice la len cap), (0, .slice la len cap)] w2 (by kernel_rfl) ?_
              by_cases fk6 : (l.getD (i).toNat 0) ≤ (l.getD (i - 1).toNat 0)
              · skip
                refine J.head (.bool true) (congrArg Value.bool (decide_eq_true fk6)) ?_
                refine J.run 5 K37_12 [(2, .bool false)] w2 (by kernel_rfl) ?_
                refine J.ret Try.f37 [.bool false] Try.func37 ⟨by kernel_rfl, trivial⟩ ?_
                refine hR _ _ ?_
                exact ⟨congrArg Value.bool (axis_bad h0 (by omega) (node_no h0 (by first | exact .inl fk4 | exact .inr ⟨by omega, by omega⟩))).symm, S2.nil⟩
              · skip
                refine J.head (.bool false) (congrArg Value.bool (decide_eq_false fk6)) ?_
                refine J.run 5 K37_13 [(36, .int .i64 (IntKind.wrap .i64 (i + 1))), (14, .int .i64 (len : Int)), (13, .slice la len cap), (0, .slice la len cap)] w2 (by kernel_rfl) ?_
                refine J.head (.int .i64 (i + 1)) (congrArg (Value.int .i64) (IntWalk.i64_in _ (by omega))) ?_
                refine J.run 3 K37_4 [(15, .int .i64 (i + 1)), (14, .int .i64 (len : Int)), (13, .slice la len cap), (0, .slice la len cap)] w2 (by kernel_rfl) ?_
                refine J.run 0 K37_4 [(15, .int .i64 (i + 1)), (14, .int .i64 (len : Int)), (13, .slice la len cap), (0, .slice la len cap)] w2 (by kernel_rfl) ?_
                exact ih1 _ (show ((len : Int) - (i + 1)).toNat < mm1 from by omega) (i + 1) w2 (by omega) (by omega) (all_step h0 hq (node_yes h0 fk4 (by omega))) S2 rfl
            · skip
              refine J.head (.bool false) (congrArg Value.bool (decide_eq_false fk5)) ?_
              refine J.run 15 K37_14 [(36, .int .i64 (IntKind.wrap .i64 (i + 1))), (14, .int .i64 (len : Int)), (13, .slice la len cap), (0, .slice la len cap)] w2 (by kernel_rfl) ?_
              refine J.head (.int .i64 (i + 1)) (congrArg (Value.int .i64) (IntWalk.i64_in _ (by omega))) ?_
              refine J.run 3 K37_4 [(15, .int .i64 (i + 1)), (14, .int .i64 (len : Int)), (13, .slice la len cap), (0, .slice la len cap)] w2 (by kernel_rfl) ?_
              refine J.run 0 K37_4 [(15, .int .i64 (i + 1)), (14, .int .i64 (len : Int)), (13, .slice la len cap), (0, .slice la len cap)] w2 (by kernel_rfl) ?_
              exact ih1 _ (show ((len : Int) - (i + 1)).toNat < mm1 from by omega) (i + 1) w2 (by omega) (by omega) (all_step h0 hq (node_yes h0 fk4 (by omega))) S2 rfl
          · skip
            refine J.head (.bool true) (congrArg Value.bool (by rw [fk4]; rfl)) ?_
            refine J.run 18 K37_15 [(2, .bool false)] w2 (by kernel_rfl) ?_
            refine J.ret Try.f37 [.bool false] Try.func37 ⟨by kernel_rfl, trivial⟩ ?_
            refine hR _ _ ?_
            exact ⟨congrArg Value.bool (axis_bad h0 (by omega) (node_no h0 (by first | exact .inl fk4 | exact .inr ⟨by omega, by omega⟩))).symm, S2.nil⟩
        · skip
          refine J.head (.bool false) (congrArg Value.bool (decide_eq_false fk3)) ?_
          refine J.run 6 K37_16 [(2, .bool true)] w1 (by kernel_rfl) ?_
          refine J.ret Try.f37 [.bool true] Try.func37 ⟨by kernel_rfl, trivial⟩ ?_
          refine hR _ _ ?_
          exact ⟨congrArg Value.bool (axis_yes (by omega) (by omega) fun j hj => hq j (by omega)).symm, S1.nil⟩
      exact L37_1 _ 0 w (by omega) (by omega) (by intro j hj; simp at hj) S0 rfl

theorem hb41 : HasBody Try.prog 41 := fun _ _ => by kernel_rfl
noncomputable def K41_0 : List Item := adv 11 [] (bodyOf Try.f41)
noncomputable def K41_1 : List Item := adv 10 [true] K41_0
noncomputable def K41_2 : List Item := adv 5 [] K41_0
noncomputable def K41_3 : List Item := adv 5 [true] K41_2
noncomputable def K41_4 : List Item := adv 9 [false] K41_2
noncomputable def K41_5 : List Item := adv 8 [] K41_4
noncomputable def K41_6 : List Item := adv 5 [true] K41_5
noncomputable def K41_7 : List Item := adv 5 [true] (rRest K41_6)
noncomputable def K41_8 : List Item := adv 6 [false] (rRest K41_6)
noncomputable def K41_9 : List Item := adv 6 [false] (rRest K41_6)
noncomputable def K41_10 : List Item := adv 5 [true] (rRest K41_6)
noncomputable def K41_11 : List Item := adv 6 [false] K41_5
set_option maxRecDepth 20000 in
set_option maxHeartbeats 20000000 in
theorem raxis_any (la : Option Addr) (len cap : Nat) (l : List Int) (w : World) (hI : Ints w la len l) (hlen : len ≤ 9223372036854775807) : Ret Try.prog 41 #[.slice la len cap] w (fun v w' => v = .bool (axisB l) ∧ Sep w [] w') := by
  have S0 := Sep.refl w
  refine Ret.named fun R hR => ?_
  refine Ret.of_J (N := 39) [(0, .slice la len cap)] Try.func41 rfl rfl (Nat.le_of_ble_eq_true (by kernel_rfl)) (by kernel_rfl) ?_
  have hll := hI.len_eq
  refine J.run 11 K41_0 [(7, .bool (decide ((len : Int) < 2))), (0, .slice la len cap)] w (by kernel_rfl) ?_
  by_cases fk1 : (len : Int) < 2
  · skip
    refine J.head (.bool true) (congrArg Value.bool (decide_eq_true fk1)) ?_
    refine J.run 10 K41_1 [(2, .bool false)] w (by kernel_rfl) ?_
    refine J.ret Try.f41 [.bool false] Try.func41 ⟨by kernel_rfl, trivial⟩ ?_
    refine hR _ _ ?_
    exact ⟨congrArg Value.bool (axis_no (by omega)).symm, S0.nil⟩
  · skip
    refine J.head (.bool false) (congrArg Value.bool (decide_eq_false fk1)) ?_
    refine J.run 5 K41_2 [(11, .bool (decide ((len : Int) > 32))), (0, .slice la len cap)] w (by kernel_rfl) ?_
    by_cases fk2 : (len : Int) > 32
    · skip
      refine J.head (.bool true) (congrArg Value.bool (decide_eq_true fk2)) ?_
      refine J.run 5 K41_3 [(2, .bool false)] w (by kernel_rfl) ?_
      refine J.ret Try.f41 [.bool false] Try.func41 ⟨by kernel_rfl, trivial⟩ ?_
      refine hR _ _ ?_
      exact ⟨congrArg Value.bool (axis_no (by omega)).symm, S0.nil⟩
    · skip
      refine J.head (.bool false) (congrArg Value.bool (decide_eq_false fk2)) ?_
      refine J.run 9 K41_4 [(3, .int .i64 0), (0, .slice la len cap)] w (by kernel_rfl) ?_
      have L41_1 : ∀ (mm_ : Nat) (i : Int) (w1 : World), (0 ≤ i) → (i ≤ (len : Int)) → (∀ j, j < (i).toNat → nodeB l j = true) → Sep w [] w1 → ((len : Int) - i).toNat = mm_ → J Try.prog 41 39 R K41_4 [(3, .int .i64 i), (0, .slice la len cap)] w1 := by
        intro mm1
        induction mm1 using Nat.strongRecOn with
        | _ mm1 ih1 =>
        intro i w1 h0 h1 hq S1 hm1
        refine J.run 8 K41_5 [(15, .bool (decide (i < (len : Int)))), (3, .int .i64 i), (0, .slice la len cap)] w1 (by kernel_rfl) ?_
        by_cases fk3 : i < (len : Int)
        · skip
          refine J.head (.bool true) (congrArg Value.bool (decide_eq_true fk3)) ?_
          refine J.run 5 K41_6 [(3, .int .i64 i), (0, .slice la len cap)] w1 (by kernel_rfl) ?_
          rcases Bool.eq_false_or_eq_true (elB (l.getD (i).toNat 0)) with fk4 | fk4
          · skip
            by_cases fk5 : i > 0
            · skip
              obtain ⟨p1, hp1, hc1⟩ := hI.at 0 (i).toNat (by omega)
              obtain ⟨p2, hp2, hc2⟩ := hI.at 0 (i - 1).toNat (by omega)
              refine J.drawPlan (fun w_ => Sep w [] w_) [(0, true), (1, true), (2, true), (3, true), (4, false), (5, true), (6, true), (7, true), (8, true), (9, true), (10, true), (11, true), (12, true), (13, true), (14, true), (15, true), (16, true), (17, true), (18, true), (19, true), (20, true)] S1 Try.mixed (by kernel_rfl) (planOK_of (T := [(0, some 18, 1), (0, some 19, 8), (3, some 20, 786432), (4, some 21, 1048576), (8, some 22, 2097152), (16, some 23, 4194304), (32, some 24, 8388616), (96, some 25, 25165824), (160, some 26, 41943040), (256, some 27, 67108865), (256, some 28, 67108872), (1792, some 29, 469762048), (2304, some 30, 603979776), (256, some 31, 67108865), (256, some 32, 67108872), (16640, some 33, 4362076160), (41216, some 34, 10804527104), (65792, some 35, 17246978048), (135424, some 36, 35500589056), (262432, some 37, 68794974208), (524320, some 38, 137447342080)]) (by kernel_rfl) (by kernel_rfl)) ?_
              intro w2 S2
              refine PB.mk (S2.sub (.slnil)) ?_
              refine PL.take 0 18 (.slice la len cap) (fun _ _ => by kernel_rfl) ?_
              refine PL.take 1 19 (.int .i64 i) (fun _ _ => by kernel_rfl) ?_
              refine PL.takeOK 2 (fun w_ S_ => OK.index 20 22 1 la p1 len (i).toNat i (p1.add (i).toNat) (by kernel_rfl) (by kernel_rfl) hp1 (by omega) (by omega) (by rw [Nat.mul_one])) rfl ?_
              refine PL.takeOK 3 (fun w_ S_ => OK.ldCell 21 3 (p1.add (i).toNat) (.int .i64 (l.getD (i).toNat 0)) (by kernel_rfl) (by kernel_rfl) (S_.cell hc1)) rfl ?_
              refine PL.callF 22 42 #[.int .i64 (l.getD (i).toNat 0)] hb42 (by kernel_rfl) (far_any (l.getD (i).toNat 0) _) ?_
              rintro _ w3 ⟨rfl, T1⟩
              have S3 : Sep w [] w3 := S2.trans T1
              clear T1 S2
              refine PB.mk (S3.sub (.slnil)) ?_
              refine PL.take 5 23 (.bool (!(elB (l.getD (i).toNat 0)))) (fun _ _ => by kernel_rfl) ?_
              refine PL.head (.bool false) (congrArg Value.bool (by rw [fk4]; rfl)) ?_
              refine PL.take 6 24 (.int .i64 i) (fun _ _ => by kernel_rfl) ?_
              refine PL.take 7 25 (.bool (decide (i > 0))) (fun _ _ => by kernel_rfl) ?_
              refine PL.head (.bool true) (congrArg Value.bool (decide_eq_true fk5)) ?_
              refine PL.take 8 26 (.bool true) (fun _ _ => by kernel_rfl) ?_
              refine PL.take 9 27 (.slice la len cap) (fun _ _ => by kernel_rfl) ?_
              refine PL.take 10 28 (.int .i64 i) (fun _ _ => by kernel_rfl) ?_
              refine PL.takeOK 11 (fun w_ S_ => OK.index 29 22 1 la p1 len (i).toNat i (p1.add (i).toNat) (by kernel_rfl) (by kernel_rfl) hp1 (by omega) (by omega) (by rw [Nat.mul_one])) rfl ?_
              refine PL.takeOK 12 (fun w_ S_ => OK.ldCell 30 3 (p1.add (i).toNat) (.int .i64 (l.getD (i).toNat 0)) (by kernel_rfl) (by kernel_rfl) (S_.cell hc1)) rfl ?_
              refine PL.take 13 31 (.slice la len cap) (fun _ _ => by kernel_rfl) ?_
              refine PL.take 14 32 (.int .i64 i) (fun _ _ => by kernel_rfl) ?_
              refine PL.take 15 33 (.int .i64 (IntKind.wrap .i64 (i - 1))) (fun _ _ => by kernel_rfl) ?_
              refine PL.head (.int .i64 (i - 1)) (congrArg (Value.int .i64) (IntWalk.i64_in _ (by omega))) ?_
              refine PL.takeOK 16 (fun w_ S_ => OK.index 34 22 1 la p2 len (i - 1).toNat (i - 1) (p2.add (i - 1).toNat) (by kernel_rfl) (by kernel_rfl) hp2 (by omega) (by omega) (by rw [Nat.mul_one])) rfl ?_
              refine PL.takeOK 17 (fun w_ S_ => OK.ldCell 35 3 (p2.add (i - 1).toNat) (.int .i64 (l.getD (i - 1).toNat 0)) (by kernel_rfl) (by kernel_rfl) (S_.cell hc2)) rfl ?_
              refine PL.take 18 36 (.bool (decide ((l.getD (i).toNat 0) ≤ (l.getD (i - 1).toNat 0)))) (fun _ _ => by kernel_rfl) ?_
              refine PL.take 19 37 (.bool (decide ((l.getD (i).toNat 0) ≤ (l.getD (i - 1).toNat 0)))) (fun _ _ => by kernel_rfl) ?_
              refine PL.take 20 38 (.bool (decide ((l.getD (i).toNat 0) ≤ (l.getD (i - 1).toNat 0)))) (fun _ _ => by kernel_rfl) ?_
              refine PL.done ?_
              refine J.run 0 (rRest K41_6) [(38, .bool (decide ((l.getD (i).toNat 0) ≤ (l.getD (i - 1).toNat 0)))), (3, .int .i64 i), (0, .slice la len cap)] w3 (by kernel_rfl) ?_
              by_cases fk6 : (l.getD (i).toNat 0) ≤ (l.getD (i - 1).toNat 0)
              · skip
                refine J.head (.bool true) (congrArg Value.bool (decide_eq_true fk6)) ?_
                refine J.run 5 K41_7 [(2, .bool false)] w3 (by kernel_rfl) ?_
                refine J.ret Try.f41 [.bool false] Try.func41 ⟨by kernel_rfl, trivial⟩ ?_
                refine hR _ _ ?_
                exact ⟨congrArg Value.bool (axis_bad h0 (by omega) (node_no h0 (by first | exact .inl fk4 | exact .inr ⟨by omega, by omega⟩))).symm, S3.nil⟩
              · skip
                refine J.head (.bool false) (congrArg Value.bool (decide_eq_false fk6)) ?_
                refine J.run 6 K41_8 [(17, .int .i64 (IntKind.wrap .i64 (i + 1))), (0, .slice la len cap)] w3 (by kernel_rfl) ?_
                refine J.head (.int .i64 (i + 1)) (congrArg (Value.int .i64) (IntWalk.i64_in _ (by omega))) ?_
                refine J.run 3 K41_4 [(3, .int .i64 (i + 1)), (0, .slice la len cap)] w3 (by kernel_rfl) ?_
                refine J.run 0 K41_4 [(3, .int .i64 (i + 1)), (0, .slice la len cap)] w3 (by kernel_rfl) ?_
                exact ih1 _ (show ((len : Int) - (i + 1)).toNat < mm1 from by omega) (i + 1) w3 (by omega) (by omega) (all_step h0 hq (node_yes h0 fk4 (by omega))) S3 rfl
            · skip
              obtain ⟨p3, hp3, hc3⟩ := hI.at 0 (i).toNat (by omega)
              refine J.drawPlan (fun w_ => Sep w [] w_) [(0, true), (1, true), (2, true), (3, true), (4, false), (5, true), (6, true), (7, true), (8, true), (9, true), (10, true), (11, true), (12, true), (13, true), (14, true), (15, true), (16, true), (17, true), (18, true), (19, true), (20, true)] S1 Try.mixed (by kernel_rfl) (planOK_of (T := [(0, some 18, 1), (0, some 19, 8), (3, some 20, 786432), (4, some 21, 1048576), (8, some 22, 2097152), (16, some 23, 4194304), (32, some 24, 8388616), (96, some 25, 25165824), (160, some 26, 41943040), (256, some 27, 67108865), (256, some 28, 67108872), (1792, some 29, 469762048), (2304, some 30, 603979776), (256, some 31, 67108865), (256, some 32, 67108872), (16640, some 33, 4362076160), (41216, some 34, 10804527104), (65792, some 35, 17246978048), (135424, some 36, 35500589056), (262432, some 37, 68794974208), (524320, some 38, 137447342080)]) (by kernel_rfl) (by kernel_rfl)) ?_
              intro w4 S4
              refine PB.mk (S4.sub (.slnil)) ?_
              refine PL.take 0 18 (.slice la len cap) (fun _ _ => by kernel_rfl) ?_
              refine PL.take 1 19 (.int .i64 i) (fun _ _ => by kernel_rfl) ?_
              refine PL.takeOK 2 (fun w_ S_ => OK.index 20 22 1 la p3 len (i).toNat i (p3.add (i).toNat) (by kernel_rfl) (by kernel_rfl) hp3 (by omega) (by omega) (by rw [Nat.mul_one])) rfl ?_
              refine PL.takeOK 3 (fun w_ S_ => OK.ldCell 21 3 (p3.add (i).toNat) (.int .i64 (l.getD (i).toNat 0)) (by kernel_rfl) (by kernel_rfl) (S_.cell hc3)) rfl ?_
              refine PL.callF 22 42 #[.int .i64 (l.getD (i).toNat 0)] hb42 (by kernel_rfl) (far_any (l.getD (i).toNat 0) _) ?_
              rintro _ w5 ⟨rfl, T2⟩
              have S5 : Sep w [] w5 := S4.trans T2
              clear T2 S4
              refine PB.mk (S5.sub (.slnil)) ?_
              refine PL.take 5 23 (.bool (!(elB (l.getD (i).toNat 0)))) (fun _ _ => by kernel_rfl) ?_
              refine PL.head (.bool false) (congrArg Value.bool (by rw [fk4]; rfl)) ?_
              refine PL.take 6 24 (.int .i64 i) (fun _ _ => by kernel_rfl) ?_
              refine PL.take 7 25 (.bool (decide (i > 0))) (fun _ _ => by kernel_rfl) ?_
              refine PL.head (.bool false) (congrArg Value.bool (decide_eq_false fk5)) ?_
              refine PL.take 8 26 (.bool false) (fun _ _ => by kernel_rfl) ?_
              refine PL.takePass 9 (some 27) (by kernel_rfl) ?_
              refine PL.takePass 10 (some 28) (by kernel_rfl) ?_
              refine PL.takePass 11 (some 29) (by kernel_rfl) ?_
              refine PL.takePass 12 (some 30) (by kernel_rfl) ?_
              refine PL.takePass 13 (some 31) (by kernel_rfl) ?_
              refine PL.takePass 14 (some 32) (by kernel_rfl) ?_
              refine PL.takePass 15 (some 33) (by kernel_rfl) ?_
              refine PL.takePass 16 (some 34) (by kernel_rfl) ?_
              refine PL.takePass 17 (some 35) (by kernel_rfl) ?_
              refine PL.takePass 18 (some 36) (by kernel_rfl) ?_
              refine PL.take 19 37 (.bool false) (fun _ _ => by kernel_rfl) ?_
              refine PL.take 20 38 (.bool false) (fun _ _ => by kernel_rfl) ?_
              refine PL.done ?_
              refine J.run 0 (rRest K41_6) [(38, .bool false), (3, .int .i64 i), (0, .slice la len cap)] w5 (by kernel_rfl) ?_
              refine J.run 6 K41_9 [(17, .int .i64 (IntKind.wrap .i64 (i + 1))), (0, .slice la len cap)] w5 (by kernel_rfl) ?_
              refine J.head (.int .i64 (i + 1)) (congrArg (Value.int .i64) (IntWalk.i64_in _ (by omega))) ?_
              refine J.run 3 K41_4 [(3, .int .i64 (i + 1)), (0, .slice la len cap)] w5 (by kernel_rfl) ?_
              refine J.run 0 K41_4 [(3, .int .i64 (i + 1)), (0, .slice la len cap)] w5 (by kernel_rfl) ?_
              exact ih1 _ (show ((len : Int) - (i + 1)).toNat < mm1 from by omega) (i + 1) w5 (by omega) (by omega) (all_step h0 hq (node_yes h0 fk4 (by omega))) S5 rfl
          · skip
            obtain ⟨p4, hp4, hc4⟩ := hI.at 0 (i).toNat (by omega)
            refine J.drawPlan (fun w_ => Sep w [] w_) [(0, true), (1, true), (2, true), (3, true), (4, false), (5, true), (6, true), (7, true), (8, true), (9, true), (10, true), (11, true), (12, true), (13, true), (14, true), (15, true), (16, true), (17, true), (18, true), (19, true), (20, true)] S1 Try.mixed (by kernel_rfl) (planOK_of (T := [(0, some 18, 1), (0, some 19, 8), (3, some 20, 786432), (4, some 21, 1048576), (8, some 22, 2097152), (16, some 23, 4194304), (32, some 24, 8388616), (96, some 25, 25165824), (160, some 26, 41943040), (256, some 27, 67108865), (256, some 28, 67108872), (1792, some 29, 469762048), (2304, some 30, 603979776), (256, some 31, 67108865), (256, some 32, 67108872), (16640, some 33, 4362076160), (41216, some 34, 10804527104), (65792, some 35, 17246978048), (135424, some 36, 35500589056), (262432, some 37, 68794974208), (524320, some 38, 137447342080)]) (by kernel_rfl) (by kernel_rfl)) ?_
            intro w6 S6
            refine PB.mk (S6.sub (.slnil)) ?_
            refine PL.take 0 18 (.slice la len cap) (fun _ _ => by kernel_rfl) ?_
            refine PL.take 1 19 (.int .i64 i) (fun _ _ => by kernel_rfl) ?_
            refine PL.takeOK 2 (fun w_ S_ => OK.index 20 22 1 la p4 len (i).toNat i (p4.add (i).toNat) (by kernel_rfl) (by kernel_rfl) hp4 (by omega) (by omega) (by rw [Nat.mul_one])) rfl ?_
            refine PL.takeOK 3 (fun w_ S_ => OK.ldCell 21 3 (p4.add (i).toNat) (.int .i64 (l.getD (i).toNat 0)) (by kernel_rfl) (by kernel_rfl) (S_.cell hc4)) rfl ?_
            refine PL.callF 22 42 #[.int .i64 (l.getD (i).toNat 0)] hb42 (by kernel_rfl) (far_any (l.getD (i).toNat 0) _) ?_
            rintro _ w7 ⟨rfl, T3⟩
            have S7 : Sep w [] w7 := S6.trans T3
            clear T3 S6
            refine PB.mk (S7.sub (.slnil)) ?_
            refine PL.take 5 23 (.bool (!(elB (l.getD (i).toNat 0)))) (fun _ _ => by kernel_rfl) ?_
            refine PL.head (.bool true) (congrArg Value.bool (by rw [fk4]; rfl)) ?_
            refine PL.takePass 6 (some 24) (by kernel_rfl) ?_
            refine PL.takePass 7 (some 25) (by kernel_rfl) ?_
            refine PL.takePass 8 (some 26) (by kernel_rfl) ?_
            refine PL.takePass 9 (some 27) (by kernel_rfl) ?_
            refine PL.takePass 10 (some 28) (by kernel_rfl) ?_
            refine PL.takePass 11 (some 29) (by kernel_rfl) ?_
            refine PL.takePass 12 (some 30) (by kernel_rfl) ?_
            refine PL.takePass 13 (some 31) (by kernel_rfl) ?_
            refine PL.takePass 14 (some 32) (by kernel_rfl) ?_
            refine PL.takePass 15 (some 33) (by kernel_rfl) ?_
            refine PL.takePass 16 (some 34) (by kernel_rfl) ?_
            refine PL.takePass 17 (some 35) (by kernel_rfl) ?_
            refine PL.takePass 18 (some 36) (by kernel_rfl) ?_
            refine PL.takePass 19 (some 37) (by kernel_rfl) ?_
            refine PL.take 20 38 (.bool true) (fun _ _ => by kernel_rfl) ?_
            refine PL.done ?_
            refine J.run 0 (rRest K41_6) [(38, .bool true), (3, .int .i64 i), (0, .slice la len cap)] w7 (by kernel_rfl) ?_
            refine J.run 5 K41_10 [(2, .bool false)] w7 (by kernel_rfl) ?_
            refine J.ret Try.f41 [.bool false] Try.func41 ⟨by kernel_rfl, trivial⟩ ?_
            refine hR _ _ ?_
            exact ⟨congrArg Value.bool (axis_bad h0 (by omega) (node_no h0 (by first | exact .inl fk4 | exact .inr ⟨by omega, by omega⟩))).symm, S7.nil⟩
        · skip
          refine J.head (.bool false) (congrArg Value.bool (decide_eq_false fk3)) ?_
          refine J.run 6 K41_11 [(2, .bool true)] w1 (by kernel_rfl) ?_
          refine J.ret Try.f41 [.bool true] Try.func41 ⟨by kernel_rfl, trivial⟩ ?_
          refine hR _ _ ?_
          exact ⟨congrArg Value.bool (axis_yes (by omega) (by omega) fun j hj => hq j (by omega)).symm, S1.nil⟩
      exact L41_1 _ 0 w (by omega) (by omega) (by intro j hj; simp at hj) S0 rfl

theorem hb39 : HasBody Try.prog 39 := fun _ _ => by kernel_rfl
noncomputable def K39_0 : List Item := adv 7 [] (bodyOf Try.f39)
noncomputable def K39_1 : List Item := adv 3 [] (popK K39_0)
set_option maxRecDepth 20000 in
set_option maxHeartbeats 20000000 in
theorem farz_any (n : Int) (w : World) : Ret Try.prog 39 #[.int .i64 n] w (fun v w' => v = .bool (!elB n) ∧ Sep w [] w') := by
  have S0 := Sep.refl w
  refine Ret.named fun R hR => ?_
  refine Ret.of_J (N := 6) [(0, .int .i64 n)] Try.func39 rfl rfl (Nat.le_of_ble_eq_true (by kernel_rfl)) (by kernel_rfl) ?_
  refine J.run 7 K39_0 [(3, .int .i64 n)] w (by kernel_rfl) ?_
  refine J.callF 4 40 #[.int .i64 n] hb40 (by kernel_rfl) (element_any n _) ?_
  rintro _ w1 ⟨rfl, T1⟩
  have S1 : Sep w [] w1 := S0.trans T1
  clear T1
  refine J.run 3 K39_1 [(2, .bool (!(elB n)))] w1 (by kernel_rfl) ?_
  refine J.ret Try.f39 [.bool (!(elB n))] Try.func39 ⟨by kernel_rfl, trivial⟩ ?_
  refine hR _ _ ?_
  exact ⟨rfl, S1.nil⟩

theorem hb65 : HasBody Try.prog 65 := fun _ _ => by kernel_rfl
noncomputable def K65_0 : List Item := adv 13 [] (bodyOf Try.f65)
noncomputable def K65_1 : List Item := adv 5 [] K65_0
noncomputable def K65_2 : List Item := adv 14 [true] K65_1
noncomputable def K65_3 : List Item := adv 1 [] (popK (popK (popK K65_2)))
noncomputable def K65_4 : List Item := adv 6 [true] K65_3
noncomputable def K65_5 : List Item := adv 5 [false] K65_3
noncomputable def K65_6 : List Item := adv 6 [false] K65_1
set_option maxRecDepth 20000 in
set_option maxHeartbeats 20000000 in
theorem indexI0 (la : Option Addr) (len cap : Nat) (l : List Int) (g : FuncId) (q : Int → Bool) (w : World) (hI : Ones (Value.int .i64) w la len l) (hlen : len ≤ 9223372036854775807) (hbg : HasBody Try.prog g) (hcall : ∀ (i : Nat) (w2 : World), i < l.length → Sep w [] w2 → Ret Try.prog g #[.int .i64 (l.getD i 0)] w2 (fun v w3 => v = .bool (q (l.getD i 0)) ∧ Sep w2 [] w3)) : Ret Try.prog 65 #[.slice la len cap, .func (.func g) #[] #[]] w (fun v w' => v = .int .i64 (indexF q l) ∧ Sep w [] w') := by
  have S0 := Sep.refl w
  refine Ret.named fun R hR => ?_
  refine Ret.of_J (N := 19) [(0, .slice la len cap), (1, .func (.func g) #[] #[])] Try.func65 rfl rfl (Nat.le_of_ble_eq_true (by kernel_rfl)) (by kernel_rfl) ?_
  refine J.run 13 K65_0 [(8, .int .i64 0), (7, .int .i64 (len : Int)), (0, .slice la len cap), (1, .func (.func g) #[] #[])] w (by kernel_rfl) ?_
  have L65_1 : ∀ (mm_ : Nat) (i : Int) (w1 : World), (0 ≤ i) → (i ≤ (len : Int)) → (∀ j, j < (i).toNat → q (l.getD j 0) = false) → Sep w [] w1 → ((len : Int) - i).toNat = mm_ → J Try.prog 65 19 R K65_0 [(8, .int .i64 i), (7, .int .i64 (len : Int)), (0, .slice la len cap), (1, .func (.func g) #[] #[])] w1 := by
    intro mm1
    induction mm1 using Nat.strongRecOn with
    | _ mm1 ih1 =>
    intro i w1 h0 h1 hq S1 hm1
    refine J.run 5 K65_1 [(9, .bool (decide (i < (len : Int)))), (8, .int .i64 i), (7, .int .i64 (len : Int)), (0, .slice la len cap), (1, .func (.func g) #[] #[])] w1 (by kernel_rfl) ?_
    by_cases fk1 : i < (len : Int)
    · skip
      refine J.head (.bool true) (congrArg Value.bool (decide_eq_true fk1)) ?_
      refine J.run 14 K65_2 [(13, .int .i64 i), (12, .slice la len cap), (11, .func (.func g) #[] #[]), (5, .int .i64 i), (8, .int .i64 i), (7, .int .i64 (len : Int)), (0, .slice la len cap), (1, .func (.func g) #[] #[])] w1 (by kernel_rfl) ?_
      obtain ⟨p1, hp1, hc1⟩ := hI.at 0 (i).toNat (by omega)
      refine J.ok (OK.index 14 22 1 la p1 len (i).toNat i (p1.add (i).toNat) (by kernel_rfl) (by kernel_rfl) hp1 (by omega) (by omega) (by rw [Nat.mul_one])) ?_
      refine J.ok (OK.ldCell 15 3 (p1.add (i).toNat) (.int .i64 (l.getD (i).toNat 0)) (by kernel_rfl) (by kernel_rfl) (S1.cell hc1)) ?_
      refine J.callF 16 g #[.int .i64 (l.getD (i).toNat 0)] hbg (by kernel_rfl) (hcall (i).toNat w1 (by have := hI.len_eq; omega) S1.nil) ?_
      rintro _ w2 ⟨rfl, T1⟩
      have S2 : Sep w [] w2 := S1.trans T1
      clear T1 S1
      refine J.run 1 K65_3 [(16, .bool (q (l.getD (i).toNat 0))), (5, .int .i64 i), (8, .int .i64 i), (7, .int .i64 (len : Int)), (0, .slice la len cap), (1, .func (.func g) #[] #[])] w2 (by kernel_rfl) ?_
      rcases Bool.eq_false_or_eq_true (q (l.getD (i).toNat 0)) with fk2 | fk2
      · skip
        refine J.head (.bool true) (congrArg Value.bool fk2) ?_
        refine J.run 6 K65_4 [(4, .int .i64 i)] w2 (by kernel_rfl) ?_
        refine J.ret Try.f65 [.int .i64 i] Try.func65 ⟨by kernel_rfl, trivial⟩ ?_
        refine hR _ _ ?_
        exact ⟨by rw [tup_one, indexF_some 0 i.toNat (by have := hI.len_eq; omega) hq fk2, Int.toNat_of_nonneg h0], S2.nil⟩
      · skip
        refine J.head (.bool false) (congrArg Value.bool fk2) ?_
        refine J.run 5 K65_5 [(18, .int .i64 (IntKind.wrap .i64 (i + 1))), (7, .int .i64 (len : Int)), (0, .slice la len cap), (1, .func (.func g) #[] #[])] w2 (by kernel_rfl) ?_
        refine J.head (.int .i64 (i + 1)) (congrArg (Value.int .i64) (IntWalk.i64_in _ (by omega))) ?_
        refine J.run 3 K65_0 [(8, .int .i64 (i + 1)), (7, .int .i64 (len : Int)), (0, .slice la len cap), (1, .func (.func g) #[] #[])] w2 (by kernel_rfl) ?_
        refine J.run 0 K65_0 [(8, .int .i64 (i + 1)), (7, .int .i64 (len : Int)), (0, .slice la len cap), (1, .func (.func g) #[] #[])] w2 (by kernel_rfl) ?_
        exact ih1 _ (show ((len : Int) - (i + 1)).toNat < mm1 from by omega) (i + 1) w2 (by omega) (by omega) (by intro j hj; by_cases e : j = i.toNat; (subst e; exact fk2); exact hq j (by omega)) S2 rfl
    · skip
      refine J.head (.bool false) (congrArg Value.bool (decide_eq_false fk1)) ?_
      refine J.run 6 K65_6 [(4, .int .i64 (-1))] w1 (by kernel_rfl) ?_
      refine J.ret Try.f65 [.int .i64 (-1)] Try.func65 ⟨by kernel_rfl, trivial⟩ ?_
      refine hR _ _ ?_
      exact ⟨by rw [tup_one, indexF_none 0 fun j hj => hq j (by have := hI.len_eq; omega)], S1.nil⟩
  exact L65_1 _ 0 w (by omega) (by omega) (by intro j hj; simp at hj) S0 rfl

theorem hb38 : HasBody Try.prog 38 := fun _ _ => by kernel_rfl
noncomputable def K38_0 : List Item := adv 8 [] (bodyOf Try.f38)
noncomputable def K38_1 : List Item := adv 3 [] (popK K38_0)
set_option maxRecDepth 20000 in
set_option maxHeartbeats 20000000 in
theorem containsI0 (la : Option Addr) (len cap : Nat) (l : List Int) (g : FuncId) (q : Int → Bool) (w : World) (hI : Ones (Value.int .i64) w la len l) (hlen : len ≤ 9223372036854775807) (hbg : HasBody Try.prog g) (hcall : ∀ (i : Nat) (w2 : World), i < l.length → Sep w [] w2 → Ret Try.prog g #[.int .i64 (l.getD i 0)] w2 (fun v w3 => v = .bool (q (l.getD i 0)) ∧ Sep w2 [] w3)) : Ret Try.prog 38 #[.slice la len cap, .func (.func g) #[] #[]] w (fun v w' => v = .bool (l.any q) ∧ Sep w [] w') := by
  have S0 := Sep.refl w
  refine Ret.named fun R hR => ?_
  refine Ret.of_J (N := 9) [(0, .slice la len cap), (1, .func (.func g) #[] #[])] Try.func38 rfl rfl (Nat.le_of_ble_eq_true (by kernel_rfl)) (by kernel_rfl) ?_
  refine J.run 8 K38_0 [(6, .func (.func g) #[] #[]), (5, .slice la len cap)] w (by kernel_rfl) ?_
  refine J.callF 7 65 #[.slice la len cap, .func (.func g) #[] #[]] hb65 (by kernel_rfl) (indexI0 la len cap l g  q _ (hI.sep S0) (by first | omega | (simp; omega)) hbg (hcall)) ?_
  rintro _ w1 ⟨rfl, T1⟩
  have S1 : Sep w [] w1 := S0.trans T1
  clear T1
  refine J.run 3 K38_1 [(4, .bool (decide ((indexF q l) ≥ 0)))] w1 (by kernel_rfl) ?_
  refine J.ret Try.f38 [.bool (decide ((indexF q l) ≥ 0))] Try.func38 ⟨by kernel_rfl, trivial⟩ ?_
  refine hR _ _ ?_
  exact ⟨congrArg Value.bool (by first | exact indexF_nonneg), S1.nil⟩

theorem hb15 : HasBody Try.prog 15 := fun _ _ => by kernel_rfl
noncomputable def K15_0 : List Item := adv 2 [] (bodyOf Try.f15)
noncomputable def K15_1 : List Item := adv 6 [] (popK K15_0)
noncomputable def K15_2 : List Item := adv 2 [] (popK (popK K15_1))
noncomputable def K15_3 : List Item := adv 1 [] K15_2
noncomputable def K15_4 : List Item := adv 3 [] (popK (popK K15_3))
noncomputable def K15_5 : List Item := adv 1 [] K15_4
noncomputable def K15_6 : List Item := adv 2 [] (popK K15_5)
noncomputable def K15_7 : List Item := adv 4 [] (popK K15_6)
noncomputable def K15_8 : List Item := adv 6 [false] K15_7
noncomputable def K15_9 : List Item := adv 5 [] (popK K15_8)
noncomputable def K15_10 : List Item := adv 5 [] K15_9
noncomputable def K15_11 : List Item := adv 6 [true] K15_10
noncomputable def K15_12 : List Item := adv 7 [] (popK (popK K15_11))
noncomputable def K15_13 : List Item := adv 3 [] (popK K15_12)
noncomputable def K15_14 : List Item := adv 1 [] K15_13
noncomputable def K15_15 : List Item := adv 2 [] (popK K15_14)
noncomputable def K15_16 : List Item := adv 5 [true] K15_15
noncomputable def K15_17 : List Item := adv 5 [false] K15_15
noncomputable def K15_18 : List Item := adv 9 [true] K15_13
noncomputable def K15_19 : List Item := adv 6 [false] K15_10
noncomputable def K15_20 : List Item := adv 5 [true] K15_7
noncomputable def K15_21 : List Item := adv 14 [true] K15_4
noncomputable def K15_22 : List Item := adv 20 [true] K15_2
set_option maxRecDepth 20000 in
set_option maxHeartbeats 20000000 in
theorem valid_any (m : Mp) (w : World) (hm : mpQ w m) : Ret Try.prog 15 #[.agg #[.slice m.gX_a m.gX_n m.gX_c, .slice m.gY_a m.gY_n m.gY_c, .slice m.gZ_a m.gZ_n m.gZ_c]] w (fun v w' => v = .bool (validM m) ∧ Sep w [] w') := by
  have S0 := Sep.refl w
  refine Ret.named fun R hR => ?_
  refine Ret.of_J (N := 42) [(0, .agg #[.slice m.gX_a m.gX_n m.gX_c, .slice m.gY_a m.gY_n m.gY_c, .slice m.gZ_a m.gZ_n m.gZ_c])] Try.func15 rfl rfl (Nat.le_of_ble_eq_true (by kernel_rfl)) (by kernel_rfl) ?_
  obtain ⟨q1, q2, q3, q4, q5, q6, q7, q8, q9, _⟩ := id hm
  have ql1 := q2.len_eq
  have ql2 := q5.len_eq
  have ql3 := q8.len_eq
  refine J.run 2 K15_0 [(0, .agg #[.slice m.gX_a m.gX_n m.gX_c, .slice m.gY_a m.gY_n m.gY_c, .slice m.gZ_a m.gZ_n m.gZ_c])] w (by kernel_rfl) ?_
  refine J.new S0 1 [.slice m.gX_a m.gX_n m.gX_c, .slice m.gY_a m.gY_n m.gY_c, .slice m.gZ_a m.gZ_n m.gZ_c] 25 (by kernel_rfl) ?_
  intro b1 w1 S1
  refine J.run 6 K15_1 [(5, .pointer (some ⟨b1, 0, none⟩)), (1, .pointer (some ⟨b1, 0, none⟩))] w1 (by kernel_rfl) ?_
  refine J.ok (OK.ldBox S1 0 6 22 0 (.slice m.gX_a m.gX_n m.gX_c) (by kernel_rfl) rfl (by kernel_rfl)) ?_
  refine J.callF 7 37 #[.slice m.gX_a m.gX_n m.gX_c] hb37 (by kernel_rfl) (axis_any m.gX_a m.gX_n m.gX_c m.gX_l _ (q2.sep S1) (by first | omega | (simp; omega))) ?_
  rintro _ w2 ⟨rfl, T1⟩
  have S2 : Sep w [box b1 [.slice m.gX_a m.gX_n m.gX_c, .slice m.gY_a m.gY_n m.gY_c, .slice m.gZ_a m.gZ_n m.gZ_c] 25] w2 := S1.trans T1
  clear T1 S1
  refine J.run 2 K15_2 [(9, .bool (!(axisB m.gX_l))), (1, .pointer (some ⟨b1, 0, none⟩))] w2 (by kernel_rfl) ?_
  rcases Bool.eq_false_or_eq_true (axisB m.gX_l) with fk1 | fk1
  · skip
    refine J.head (.bool false) (congrArg Value.bool (by rw [fk1]; rfl)) ?_
    refine J.run 1 K15_3 [(10, .pointer (some ⟨b1, 1, none⟩)), (9, .bool false), (1, .pointer (some ⟨b1, 0, none⟩))] w2 (by kernel_rfl) ?_
    refine J.ok (OK.ldBox S2 0 11 22 1 (.slice m.gY_a m.gY_n m.gY_c) (by kernel_rfl) rfl (by kernel_rfl)) ?_
    refine J.callF 12 37 #[.slice m.gY_a m.gY_n m.gY_c] hb37 (by kernel_rfl) (axis_any m.gY_a m.gY_n m.gY_c m.gY_l _ (q5.sep S2) (by first | omega | (simp; omega))) ?_
    rintro _ w3 ⟨rfl, T2⟩
    have S3 : Sep w [box b1 [.slice m.gX_a m.gX_n m.gX_c, .slice m.gY_a m.gY_n m.gY_c, .slice m.gZ_a m.gZ_n m.gZ_c] 25] w3 := S2.trans T2
    clear T2 S2
    refine J.run 3 K15_4 [(15, .bool (!(axisB m.gY_l))), (1, .pointer (some ⟨b1, 0, none⟩))] w3 (by kernel_rfl) ?_
    rcases Bool.eq_false_or_eq_true (axisB m.gY_l) with fk2 | fk2
    · skip
      refine J.head (.bool false) (congrArg Value.bool (by rw [fk2]; rfl)) ?_
      refine J.run 1 K15_5 [(16, .pointer (some ⟨b1, 2, none⟩)), (15, .bool false), (1, .pointer (some ⟨b1, 0, none⟩))] w3 (by kernel_rfl) ?_
      refine J.ok (OK.ldBox S3 0 17 23 2 (.slice m.gZ_a m.gZ_n m.gZ_c) (by kernel_rfl) rfl (by kernel_rfl)) ?_
      refine J.run 2 K15_6 [(19, .pointer (some ⟨b1, 0, none⟩)), (18, .int .i64 (m.gZ_n : Int)), (15, .bool false), (1, .pointer (some ⟨b1, 0, none⟩))] w3 (by kernel_rfl) ?_
      refine J.ok (OK.ldBox S3 0 20 22 0 (.slice m.gX_a m.gX_n m.gX_c) (by kernel_rfl) rfl (by kernel_rfl)) ?_
      refine J.run 4 K15_7 [(23, .bool ((m.gZ_n : Int) != (m.gX_n : Int))), (1, .pointer (some ⟨b1, 0, none⟩))] w3 (by kernel_rfl) ?_
      by_cases fk3 : (m.gZ_n : Int) = (m.gX_n : Int)
      · skip
        refine J.head (.bool false) (congrArg Value.bool (bne_eq_false_iff_eq.2 fk3)) ?_
        refine J.run 6 K15_8 [(24, .pointer (some ⟨b1, 2, none⟩)), (1, .pointer (some ⟨b1, 0, none⟩))] w3 (by kernel_rfl) ?_
        refine J.ok (OK.ldBox S3 0 25 23 2 (.slice m.gZ_a m.gZ_n m.gZ_c) (by kernel_rfl) rfl (by kernel_rfl)) ?_
        refine J.run 5 K15_9 [(27, .int .i64 0), (26, .int .i64 (m.gZ_n : Int)), (25, .slice m.gZ_a m.gZ_n m.gZ_c), (1, .pointer (some ⟨b1, 0, none⟩))] w3 (by kernel_rfl) ?_
        have L15_1 : ∀ (mm_ : Nat) (i : Int) (w4 : World), (0 ≤ i) → (i ≤ (m.gZ_n : Int)) → (∀ j, j < (i).toNat → rowB m.gY_n (m.gZ_l.getD j rw0) = true) → Sep w [box b1 [.slice m.gX_a m.gX_n m.gX_c, .slice m.gY_a m.gY_n m.gY_c, .slice m.gZ_a m.gZ_n m.gZ_c] 25] w4 → ((m.gZ_n : Int) - i).toNat = mm_ → J Try.prog 15 42 R K15_9 [(27, .int .i64 i), (26, .int .i64 (m.gZ_n : Int)), (25, .slice m.gZ_a m.gZ_n m.gZ_c), (1, .pointer (some ⟨b1, 0, none⟩))] w4 := by
          intro mm1
          induction mm1 using Nat.strongRecOn with
          | _ mm1 ih1 =>
          intro i w4 h0 h1 hq S4 hm1
          refine J.run 5 K15_10 [(28, .bool (decide (i < (m.gZ_n : Int)))), (27, .int .i64 i), (26, .int .i64 (m.gZ_n : Int)), (25, .slice m.gZ_a m.gZ_n m.gZ_c), (1, .pointer (some ⟨b1, 0, none⟩))] w4 (by kernel_rfl) ?_
          by_cases fk4 : i < (m.gZ_n : Int)
          · skip
            refine J.head (.bool true) (congrArg Value.bool (decide_eq_true fk4)) ?_
            refine J.run 6 K15_11 [(27, .int .i64 i), (26, .int .i64 (m.gZ_n : Int)), (25, .slice m.gZ_a m.gZ_n m.gZ_c), (1, .pointer (some ⟨b1, 0, none⟩))] w4 (by kernel_rfl) ?_
            obtain ⟨p1, hp1, hc1⟩ := q8.at rw0 (i).toNat (by omega)
            have hel1 := getD_Q q9 rw0 (n := (i).toNat) (by have := q8.len_eq; omega)
            obtain ⟨q10, q11, q12, _⟩ := id hel1
            have ql4 := q11.len_eq
            refine J.ok (OK.index 29 23 1 m.gZ_a p1 m.gZ_n (i).toNat i (p1.add ((i).toNat * 1)) (by kernel_rfl) (by kernel_rfl) hp1 (by omega) (by omega) rfl) ?_
            refine J.ok (OK.ldCell 30 22 (p1.add ((i).toNat * 1)) (.slice ((m.gZ_l.getD (i).toNat rw0).gS_a) ((m.gZ_l.getD (i).toNat rw0).gS_n) ((m.gZ_l.getD (i).toNat rw0).gS_c)) (by kernel_rfl) (by kernel_rfl) (S4.cell (cell_zero (hc1 0 _ rfl)))) ?_
            refine J.run 7 K15_12 [(33, .pointer (some ⟨b1, 1, none⟩)), (32, .int .i64 ((m.gZ_l.getD (i).toNat rw0).gS_n : Int)), (4, .slice ((m.gZ_l.getD (i).toNat rw0).gS_a) ((m.gZ_l.getD (i).toNat rw0).gS_n) ((m.gZ_l.getD (i).toNat rw0).gS_c)), (27, .int .i64 i), (26, .int .i64 (m.gZ_n : Int)), (25, .slice m.gZ_a m.gZ_n m.gZ_c), (1, .pointer (some ⟨b1, 0, none⟩))] w4 (by kernel_rfl) ?_
            refine J.ok (OK.ldBox S4 0 34 22 1 (.slice m.gY_a m.gY_n m.gY_c) (by kernel_rfl) rfl (by kernel_rfl)) ?_
            refine J.run 3 K15_13 [(37, .bool (((m.gZ_l.getD (i).toNat rw0).gS_n : Int) != (m.gY_n : Int))), (4, .slice ((m.gZ_l.getD (i).toNat rw0).gS_a) ((m.gZ_l.getD (i).toNat rw0).gS_n) ((m.gZ_l.getD (i).toNat rw0).gS_c)), (27, .int .i64 i), (26, .int .i64 (m.gZ_n : Int)), (25, .slice m.gZ_a m.gZ_n m.gZ_c), (1, .pointer (some ⟨b1, 0, none⟩))] w4 (by kernel_rfl) ?_
            by_cases fk5 : ((m.gZ_l.getD (i).toNat rw0).gS_n : Int) = (m.gY_n : Int)
            · skip
              refine J.head (.bool false) (congrArg Value.bool (bne_eq_false_iff_eq.2 fk5)) ?_
              refine J.run 1 K15_14 [(38, .slice ((m.gZ_l.getD (i).toNat rw0).gS_a) ((m.gZ_l.getD (i).toNat rw0).gS_n) ((m.gZ_l.getD (i).toNat rw0).gS_c)), (37, .bool false), (27, .int .i64 i), (26, .int .i64 (m.gZ_n : Int)), (25, .slice m.gZ_a m.gZ_n m.gZ_c), (1, .pointer (some ⟨b1, 0, none⟩))] w4 (by kernel_rfl) ?_
              refine J.callF 39 38 #[.slice ((m.gZ_l.getD (i).toNat rw0).gS_a) ((m.gZ_l.getD (i).toNat rw0).gS_n) ((m.gZ_l.getD (i).toNat rw0).gS_c), .func (.func 39) #[] #[]] hb38 (by kernel_rfl) (containsI0 ((m.gZ_l.getD (i).toNat rw0).gS_a) ((m.gZ_l.getD (i).toNat rw0).gS_n) ((m.gZ_l.getD (i).toNat rw0).gS_c) ((m.gZ_l.getD (i).toNat rw0).gS_l) 39  (fun x => !elB x) _ (q11.sep S4) (by first | omega | (simp; omega)) hb39 (fun i_ w_ hi_ S_ => farz_any _ w_)) ?_
              rintro _ w5 ⟨rfl, T3⟩
              have S5 : Sep w [box b1 [.slice m.gX_a m.gX_n m.gX_c, .slice m.gY_a m.gY_n m.gY_c, .slice m.gZ_a m.gZ_n m.gZ_c] 25] w5 := S4.trans T3
              clear T3 S4
              refine J.run 2 K15_15 [(40, .bool (List.any ((m.gZ_l.getD (i).toNat rw0).gS_l) (fun x => !elB x))), (27, .int .i64 i), (26, .int .i64 (m.gZ_n : Int)), (25, .slice m.gZ_a m.gZ_n m.gZ_c), (1, .pointer (some ⟨b1, 0, none⟩))] w5 (by kernel_rfl) ?_
              rcases Bool.eq_false_or_eq_true (List.any ((m.gZ_l.getD (i).toNat rw0).gS_l) (fun x => !elB x)) with fk6 | fk6
              · skip
                refine J.head (.bool true) (congrArg Value.bool fk6) ?_
                refine J.run 5 K15_16 [(2, .bool false)] w5 (by kernel_rfl) ?_
                refine J.ret Try.f15 [.bool false] Try.func15 ⟨by kernel_rfl, trivial⟩ ?_
                refine hR _ _ ?_
                exact ⟨congrArg Value.bool (valid_bad h0 (by omega) (row_no (.inr (by rw [any_not_all] at fk6; simpa using fk6)))).symm, S5.nil⟩
              · skip
                refine J.head (.bool false) (congrArg Value.bool fk6) ?_
                refine J.run 5 K15_17 [(41, .int .i64 (IntKind.wrap .i64 (i + 1))), (26, .int .i64 (m.gZ_n : Int)), (25, .slice m.gZ_a m.gZ_n m.gZ_c), (1, .pointer (some ⟨b1, 0, none⟩))] w5 (by kernel_rfl) ?_
                refine J.head (.int .i64 (i + 1)) (congrArg (Value.int .i64) (IntWalk.i64_in _ (by omega))) ?_
                refine J.run 3 K15_9 [(27, .int .i64 (i + 1)), (26, .int .i64 (m.gZ_n : Int)), (25, .slice m.gZ_a m.gZ_n m.gZ_c), (1, .pointer (some ⟨b1, 0, none⟩))] w5 (by kernel_rfl) ?_
                refine J.run 0 K15_9 [(27, .int .i64 (i + 1)), (26, .int .i64 (m.gZ_n : Int)), (25, .slice m.gZ_a m.gZ_n m.gZ_c), (1, .pointer (some ⟨b1, 0, none⟩))] w5 (by kernel_rfl) ?_
                exact ih1 _ (show ((m.gZ_n : Int) - (i + 1)).toNat < mm1 from by omega) (i + 1) w5 (by omega) (by omega) (all_step h0 hq (row_yes (by omega) (by have h_ := fk6; rw [any_not_all] at h_; simpa using h_))) S5 rfl
            · skip
              refine J.head (.bool true) (congrArg Value.bool (bne_iff_ne.2 fk5)) ?_
              refine J.run 9 K15_18 [(2, .bool false)] w4 (by kernel_rfl) ?_
              refine J.ret Try.f15 [.bool false] Try.func15 ⟨by kernel_rfl, trivial⟩ ?_
              refine hR _ _ ?_
              exact ⟨congrArg Value.bool (valid_bad h0 (by omega) (row_no (.inl (by omega)))).symm, S4.nil⟩
          · skip
            refine J.head (.bool false) (congrArg Value.bool (decide_eq_false fk4)) ?_
            refine J.run 6 K15_19 [(2, .bool true)] w4 (by kernel_rfl) ?_
            refine J.ret Try.f15 [.bool true] Try.func15 ⟨by kernel_rfl, trivial⟩ ?_
            refine hR _ _ ?_
            exact ⟨congrArg Value.bool (valid_yes fk1 fk2 (by omega) fun j hj => hq j (by omega)).symm, S4.nil⟩
        exact L15_1 _ 0 w3 (by omega) (by omega) (by intro j hj; simp at hj) S3 rfl
      · skip
        refine J.head (.bool true) (congrArg Value.bool (bne_iff_ne.2 fk3)) ?_
        refine J.run 5 K15_20 [(2, .bool false)] w3 (by kernel_rfl) ?_
        refine J.ret Try.f15 [.bool false] Try.func15 ⟨by kernel_rfl, trivial⟩ ?_
        refine hR _ _ ?_
        exact ⟨congrArg Value.bool (valid_no (by first | exact .inl fk2 | exact .inr (.inl fk2) | exact .inr (.inr (by omega)))).symm, S3.nil⟩
    · skip
      refine J.head (.bool true) (congrArg Value.bool (by rw [fk2]; rfl)) ?_
      refine J.run 14 K15_21 [(2, .bool false)] w3 (by kernel_rfl) ?_
      refine J.ret Try.f15 [.bool false] Try.func15 ⟨by kernel_rfl, trivial⟩ ?_
      refine hR _ _ ?_
      exact ⟨congrArg Value.bool (valid_no (by first | exact .inl fk2 | exact .inr (.inl fk2) | exact .inr (.inr (by omega)))).symm, S3.nil⟩
  · skip
    refine J.head (.bool true) (congrArg Value.bool (by rw [fk1]; rfl)) ?_
    refine J.run 20 K15_22 [(2, .bool false)] w2 (by kernel_rfl) ?_
    refine J.ret Try.f15 [.bool false] Try.func15 ⟨by kernel_rfl, trivial⟩ ?_
    refine hR _ _ ?_
    exact ⟨congrArg Value.bool (valid_no (by first | exact .inl fk1 | exact .inr (.inl fk1) | exact .inr (.inr (by omega)))).symm, S2.nil⟩

theorem hb16 : HasBody Try.prog 16 := fun _ _ => by kernel_rfl
noncomputable def K16_0 : List Item := adv 2 [] (bodyOf Try.f16)
noncomputable def K16_1 : List Item := adv 6 [] (popK K16_0)
noncomputable def K16_2 : List Item := adv 2 [] (popK (popK K16_1))
noncomputable def K16_3 : List Item := adv 1 [] K16_2
noncomputable def K16_4 : List Item := adv 3 [] (popK (popK K16_3))
noncomputable def K16_5 : List Item := adv 1 [] K16_4
noncomputable def K16_6 : List Item := adv 2 [] (popK K16_5)
noncomputable def K16_7 : List Item := adv 4 [] (popK K16_6)
noncomputable def K16_8 : List Item := adv 9 [false] K16_7
noncomputable def K16_9 : List Item := adv 5 [] K16_8
noncomputable def K16_10 : List Item := adv 3 [] (popK K16_9)
noncomputable def K16_11 : List Item := adv 6 [true] K16_10
noncomputable def K16_12 : List Item := adv 8 [false] (rRest K16_11)
noncomputable def K16_13 : List Item := adv 5 [] K16_12
noncomputable def K16_14 : List Item := adv 3 [] (popK K16_13)
noncomputable def K16_15 : List Item := adv 7 [true] K16_14
noncomputable def K16_16 : List Item := adv 1 [] (popK K16_15)
noncomputable def K16_17 : List Item := adv 1 [] (popK (popK K16_16))
noncomputable def K16_18 : List Item := adv 1 [] (popK (popK (popK K16_17)))
noncomputable def K16_19 : List Item := adv 6 [false] K16_18
noncomputable def K16_20 : List Item := adv 5 [true] K16_18
noncomputable def K16_21 : List Item := adv 6 [false] K16_14
noncomputable def K16_22 : List Item := adv 5 [true] (rRest K16_11)
noncomputable def K16_23 : List Item := adv 6 [false] K16_10
noncomputable def K16_24 : List Item := adv 5 [true] K16_7
noncomputable def K16_25 : List Item := adv 14 [true] K16_4
noncomputable def K16_26 : List Item := adv 20 [true] K16_2
set_option maxRecDepth 20000 in
set_option maxHeartbeats 20000000 in
theorem rvalid_any (m : Mp) (w : World) (hm : mpQ w m) : Ret Try.prog 16 #[.agg #[.slice m.gX_a m.gX_n m.gX_c, .slice m.gY_a m.gY_n m.gY_c, .slice m.gZ_a m.gZ_n m.gZ_c]] w (fun v w' => v = .bool (validM m) ∧ Sep w [] w') := by
  have S0 := Sep.refl w
  refine Ret.named fun R hR => ?_
  refine Ret.of_J (N := 57) [(0, .agg #[.slice m.gX_a m.gX_n m.gX_c, .slice m.gY_a m.gY_n m.gY_c, .slice m.gZ_a m.gZ_n m.gZ_c])] Try.func16 rfl rfl (Nat.le_of_ble_eq_true (by kernel_rfl)) (by kernel_rfl) ?_
  obtain ⟨q1, q2, q3, q4, q5, q6, q7, q8, q9, _⟩ := id hm
  have ql1 := q2.len_eq
  have ql2 := q5.len_eq
  have ql3 := q8.len_eq
  refine J.run 2 K16_0 [(0, .agg #[.slice m.gX_a m.gX_n m.gX_c, .slice m.gY_a m.gY_n m.gY_c, .slice m.gZ_a m.gZ_n m.gZ_c])] w (by kernel_rfl) ?_
  refine J.new S0 1 [.slice m.gX_a m.gX_n m.gX_c, .slice m.gY_a m.gY_n m.gY_c, .slice m.gZ_a m.gZ_n m.gZ_c] 25 (by kernel_rfl) ?_
  intro b1 w1 S1
  refine J.run 6 K16_1 [(5, .pointer (some ⟨b1, 0, none⟩)), (1, .pointer (some ⟨b1, 0, none⟩))] w1 (by kernel_rfl) ?_
  refine J.ok (OK.ldBox S1 0 6 22 0 (.slice m.gX_a m.gX_n m.gX_c) (by kernel_rfl) rfl (by kernel_rfl)) ?_
  refine J.callF 7 41 #[.slice m.gX_a m.gX_n m.gX_c] hb41 (by kernel_rfl) (raxis_any m.gX_a m.gX_n m.gX_c m.gX_l _ (q2.sep S1) (by first | omega | (simp; omega))) ?_
  rintro _ w2 ⟨rfl, T1⟩
  have S2 : Sep w [box b1 [.slice m.gX_a m.gX_n m.gX_c, .slice m.gY_a m.gY_n m.gY_c, .slice m.gZ_a m.gZ_n m.gZ_c] 25] w2 := S1.trans T1
  clear T1 S1
  refine J.run 2 K16_2 [(9, .bool (!(axisB m.gX_l))), (1, .pointer (some ⟨b1, 0, none⟩))] w2 (by kernel_rfl) ?_
  rcases Bool.eq_false_or_eq_true (axisB m.gX_l) with fk1 | fk1
  · skip
    refine J.head (.bool false) (congrArg Value.bool (by rw [fk1]; rfl)) ?_
    refine J.run 1 K16_3 [(10, .pointer (some ⟨b1, 1, none⟩)), (9, .bool false), (1, .pointer (some ⟨b1, 0, none⟩))] w2 (by kernel_rfl) ?_
    refine J.ok (OK.ldBox S2 0 11 22 1 (.slice m.gY_a m.gY_n m.gY_c) (by kernel_rfl) rfl (by kernel_rfl)) ?_
    refine J.callF 12 41 #[.slice m.gY_a m.gY_n m.gY_c] hb41 (by kernel_rfl) (raxis_any m.gY_a m.gY_n m.gY_c m.gY_l _ (q5.sep S2) (by first | omega | (simp; omega))) ?_
    rintro _ w3 ⟨rfl, T2⟩
    have S3 : Sep w [box b1 [.slice m.gX_a m.gX_n m.gX_c, .slice m.gY_a m.gY_n m.gY_c, .slice m.gZ_a m.gZ_n m.gZ_c] 25] w3 := S2.trans T2
    clear T2 S2
    refine J.run 3 K16_4 [(15, .bool (!(axisB m.gY_l))), (1, .pointer (some ⟨b1, 0, none⟩))] w3 (by kernel_rfl) ?_
    rcases Bool.eq_false_or_eq_true (axisB m.gY_l) with fk2 | fk2
    · skip
      refine J.head (.bool false) (congrArg Value.bool (by rw [fk2]; rfl)) ?_
      refine J.run 1 K16_5 [(16, .pointer (some ⟨b1, 2, none⟩)), (15, .bool false), (1, .pointer (some ⟨b1, 0, none⟩))] w3 (by kernel_rfl) ?_
      refine J.ok (OK.ldBox S3 0 17 23 2 (.slice m.gZ_a m.gZ_n m.gZ_c) (by kernel_rfl) rfl (by kernel_rfl)) ?_
      refine J.run 2 K16_6 [(19, .pointer (some ⟨b1, 0, none⟩)), (18, .int .i64 (m.gZ_n : Int)), (15, .bool false), (1, .pointer (some ⟨b1, 0, none⟩))] w3 (by kernel_rfl) ?_
      refine J.ok (OK.ldBox S3 0 20 22 0 (.slice m.gX_a m.gX_n m.gX_c) (by kernel_rfl) rfl (by kernel_rfl)) ?_
      refine J.run 4 K16_7 [(23, .bool ((m.gZ_n : Int) != (m.gX_n : Int))), (1, .pointer (some ⟨b1, 0, none⟩))] w3 (by kernel_rfl) ?_
      by_cases fk3 : (m.gZ_n : Int) = (m.gX_n : Int)
      · skip
        refine J.head (.bool false) (congrArg Value.bool (bne_eq_false_iff_eq.2 fk3)) ?_
        refine J.run 9 K16_8 [(3, .int .i64 0), (1, .pointer (some ⟨b1, 0, none⟩))] w3 (by kernel_rfl) ?_
        have L16_1 : ∀ (mm_ : Nat) (i : Int) (w4 : World), (0 ≤ i) → (i ≤ (m.gZ_n : Int)) → (∀ j, j < (i).toNat → rowB m.gY_n (m.gZ_l.getD j rw0) = true) → Sep w [box b1 [.slice m.gX_a m.gX_n m.gX_c, .slice m.gY_a m.gY_n m.gY_c, .slice m.gZ_a m.gZ_n m.gZ_c] 25] w4 → ((m.gZ_n : Int) - i).toNat = mm_ → J Try.prog 16 57 R K16_8 [(3, .int .i64 i), (1, .pointer (some ⟨b1, 0, none⟩))] w4 := by
          intro mm1
          induction mm1 using Nat.strongRecOn with
          | _ mm1 ih1 =>
          intro i w4 h0 h1 hq S4 hm1
          refine J.run 5 K16_9 [(25, .pointer (some ⟨b1, 2, none⟩)), (24, .int .i64 i), (3, .int .i64 i), (1, .pointer (some ⟨b1, 0, none⟩))] w4 (by kernel_rfl) ?_
          refine J.ok (OK.ldBox S4 0 26 23 2 (.slice m.gZ_a m.gZ_n m.gZ_c) (by kernel_rfl) rfl (by kernel_rfl)) ?_
          refine J.run 3 K16_10 [(28, .bool (decide (i < (m.gZ_n : Int)))), (3, .int .i64 i), (1, .pointer (some ⟨b1, 0, none⟩))] w4 (by kernel_rfl) ?_
          by_cases fk4 : i < (m.gZ_n : Int)
          · skip
            refine J.head (.bool true) (congrArg Value.bool (decide_eq_true fk4)) ?_
            refine J.run 6 K16_11 [(3, .int .i64 i), (1, .pointer (some ⟨b1, 0, none⟩))] w4 (by kernel_rfl) ?_
            obtain ⟨p1, hp1, hc1⟩ := q8.at rw0 (i).toNat (by omega)
            have hel1 := getD_Q q9 rw0 (n := (i).toNat) (by have := q8.len_eq; omega)
            obtain ⟨q10, q11, q12, _⟩ := id hel1
            have ql4 := q11.len_eq
            refine J.drawStill S4 10 Try.mixed (by kernel_rfl) (by kernel_rfl) (by kernel_rfl) ?_
            intro w5 S5
            refine SL.ok (by decide) (OK.run 31 (.pointer (some ⟨b1, 2, none⟩)) (by kernel_rfl)) ?_
            refine SL.ok (by decide) (OK.ldBox S5 0 32 23 2 (.slice m.gZ_a m.gZ_n m.gZ_c) (by kernel_rfl) rfl (by kernel_rfl)) ?_
            refine SL.ok (by decide) (OK.run 33 (.int .i64 i) (by kernel_rfl)) ?_
            refine SL.ok (by decide) (OK.index 34 23 1 m.gZ_a p1 m.gZ_n (i).toNat i (p1.add ((i).toNat * 1)) (by kernel_rfl) (by kernel_rfl) hp1 (by omega) (by omega) rfl) ?_
            refine SL.ok (by decide) (OK.ldCell 35 22 (p1.add ((i).toNat * 1)) (.slice ((m.gZ_l.getD (i).toNat rw0).gS_a) ((m.gZ_l.getD (i).toNat rw0).gS_n) ((m.gZ_l.getD (i).toNat rw0).gS_c)) (by kernel_rfl) (by kernel_rfl) (S5.cell (cell_zero (hc1 0 _ rfl)))) ?_
            refine SL.ok (by decide) (OK.run 36 (.int .i64 ((m.gZ_l.getD (i).toNat rw0).gS_n : Int)) (by kernel_rfl)) ?_
            refine SL.ok (by decide) (OK.run 37 (.pointer (some ⟨b1, 1, none⟩)) (by kernel_rfl)) ?_
            refine SL.ok (by decide) (OK.ldBox S5 0 38 22 1 (.slice m.gY_a m.gY_n m.gY_c) (by kernel_rfl) rfl (by kernel_rfl)) ?_
            refine SL.ok (by decide) (OK.run 39 (.int .i64 (m.gY_n : Int)) (by kernel_rfl)) ?_
            refine SL.ok (by decide) (OK.run 40 (.bool (((m.gZ_l.getD (i).toNat rw0).gS_n : Int) != (m.gY_n : Int))) (by kernel_rfl)) ?_
            refine SL.done ?_
            refine TL.done (by kernel_rfl) ?_
            refine J.run 0 (rRest K16_11) [(40, .bool (((m.gZ_l.getD (i).toNat rw0).gS_n : Int) != (m.gY_n : Int))), (3, .int .i64 i), (1, .pointer (some ⟨b1, 0, none⟩))] w5 (by kernel_rfl) ?_
            by_cases fk5 : ((m.gZ_l.getD (i).toNat rw0).gS_n : Int) = (m.gY_n : Int)
            · skip
              refine J.head (.bool false) (congrArg Value.bool (bne_eq_false_iff_eq.2 fk5)) ?_
              refine J.run 8 K16_12 [(4, .int .i64 0), (3, .int .i64 i), (1, .pointer (some ⟨b1, 0, none⟩))] w5 (by kernel_rfl) ?_
              have L16_2 : ∀ (mm_ : Nat) (j : Int) (w6 : World), (0 ≤ j) → (j ≤ (m.gY_n : Int)) → (∀ k, k < (j).toNat → elB ((m.gZ_l.getD (i).toNat rw0).gS_l.getD k 0) = true) → Sep w [box b1 [.slice m.gX_a m.gX_n m.gX_c, .slice m.gY_a m.gY_n m.gY_c, .slice m.gZ_a m.gZ_n m.gZ_c] 25] w6 → ((m.gY_n : Int) - j).toNat = mm_ → J Try.prog 16 57 R K16_12 [(4, .int .i64 j), (3, .int .i64 i), (1, .pointer (some ⟨b1, 0, none⟩))] w6 := by
                intro mm2
                induction mm2 using Nat.strongRecOn with
                | _ mm2 ih2 =>
                intro j w6 j0 j1 hq2 S6 hm2
                refine J.run 5 K16_13 [(42, .pointer (some ⟨b1, 1, none⟩)), (41, .int .i64 j), (4, .int .i64 j), (3, .int .i64 i), (1, .pointer (some ⟨b1, 0, none⟩))] w6 (by kernel_rfl) ?_
                refine J.ok (OK.ldBox S6 0 43 22 1 (.slice m.gY_a m.gY_n m.gY_c) (by kernel_rfl) rfl (by kernel_rfl)) ?_
                refine J.run 3 K16_14 [(45, .bool (decide (j < (m.gY_n : Int)))), (4, .int .i64 j), (3, .int .i64 i), (1, .pointer (some ⟨b1, 0, none⟩))] w6 (by kernel_rfl) ?_
                by_cases fk6 : j < (m.gY_n : Int)
                · skip
                  refine J.head (.bool true) (congrArg Value.bool (decide_eq_true fk6)) ?_
                  refine J.run 7 K16_15 [(48, .pointer (some ⟨b1, 2, none⟩)), (4, .int .i64 j), (3, .int .i64 i), (1, .pointer (some ⟨b1, 0, none⟩))] w6 (by kernel_rfl) ?_
                  refine J.ok (OK.ldBox S6 0 49 23 2 (.slice m.gZ_a m.gZ_n m.gZ_c) (by kernel_rfl) rfl (by kernel_rfl)) ?_
                  refine J.run 1 K16_16 [(50, .int .i64 i), (49, .slice m.gZ_a m.gZ_n m.gZ_c), (4, .int .i64 j), (3, .int .i64 i), (1, .pointer (some ⟨b1, 0, none⟩))] w6 (by kernel_rfl) ?_
                  refine J.ok (OK.index 51 23 1 m.gZ_a p1 m.gZ_n (i).toNat i (p1.add ((i).toNat * 1)) (by kernel_rfl) (by kernel_rfl) hp1 (by omega) (by omega) rfl) ?_
                  refine J.ok (OK.ldCell 52 22 (p1.add ((i).toNat * 1)) (.slice ((m.gZ_l.getD (i).toNat rw0).gS_a) ((m.gZ_l.getD (i).toNat rw0).gS_n) ((m.gZ_l.getD (i).toNat rw0).gS_c)) (by kernel_rfl) (by kernel_rfl) (S6.cell (cell_zero (hc1 0 _ rfl)))) ?_
                  refine J.run 1 K16_17 [(53, .int .i64 j), (52, .slice ((m.gZ_l.getD (i).toNat rw0).gS_a) ((m.gZ_l.getD (i).toNat rw0).gS_n) ((m.gZ_l.getD (i).toNat rw0).gS_c)), (4, .int .i64 j), (3, .int .i64 i), (1, .pointer (some ⟨b1, 0, none⟩))] w6 (by kernel_rfl) ?_
                  obtain ⟨p2, hp2, hc2⟩ := q11.at 0 (j).toNat (by omega)
                  have hel2 := getD_Q q12 0 (n := (j).toNat) (by have := q11.len_eq; omega)
                  refine J.ok (OK.index 54 22 1 ((m.gZ_l.getD (i).toNat rw0).gS_a) p2 ((m.gZ_l.getD (i).toNat rw0).gS_n) (j).toNat j (p2.add (j).toNat) (by kernel_rfl) (by kernel_rfl) hp2 (by omega) (by omega) (by rw [Nat.mul_one])) ?_
                  refine J.ok (OK.ldCell 55 3 (p2.add (j).toNat) (.int .i64 (((m.gZ_l.getD (i).toNat rw0).gS_l).getD (j).toNat 0)) (by kernel_rfl) (by kernel_rfl) (S6.cell hc2)) ?_
                  refine J.callF 56 42 #[.int .i64 (((m.gZ_l.getD (i).toNat rw0).gS_l).getD (j).toNat 0)] hb42 (by kernel_rfl) (far_any (((m.gZ_l.getD (i).toNat rw0).gS_l).getD (j).toNat 0) _) ?_
                  rintro _ w7 ⟨rfl, T3⟩
                  have S7 : Sep w [box b1 [.slice m.gX_a m.gX_n m.gX_c, .slice m.gY_a m.gY_n m.gY_c, .slice m.gZ_a m.gZ_n m.gZ_c] 25] w7 := S6.trans T3
                  clear T3 S6
                  refine J.run 1 K16_18 [(56, .bool (!(elB (((m.gZ_l.getD (i).toNat rw0).gS_l).getD (j).toNat 0)))), (4, .int .i64 j), (3, .int .i64 i), (1, .pointer (some ⟨b1, 0, none⟩))] w7 (by kernel_rfl) ?_
                  rcases Bool.eq_false_or_eq_true (elB (((m.gZ_l.getD (i).toNat rw0).gS_l).getD (j).toNat 0)) with fk7 | fk7
                  · skip
                    refine J.head (.bool false) (congrArg Value.bool (by rw [fk7]; rfl)) ?_
                    refine J.run 6 K16_19 [(47, .int .i64 (IntKind.wrap .i64 (j + 1))), (3, .int .i64 i), (1, .pointer (some ⟨b1, 0, none⟩))] w7 (by kernel_rfl) ?_
                    refine J.head (.int .i64 (j + 1)) (congrArg (Value.int .i64) (IntWalk.i64_in _ (by omega))) ?_
                    refine J.run 3 K16_12 [(4, .int .i64 (j + 1)), (3, .int .i64 i), (1, .pointer (some ⟨b1, 0, none⟩))] w7 (by kernel_rfl) ?_
                    refine J.run 0 K16_12 [(4, .int .i64 (j + 1)), (3, .int .i64 i), (1, .pointer (some ⟨b1, 0, none⟩))] w7 (by kernel_rfl) ?_
                    exact ih2 _ (show ((m.gY_n : Int) - (j + 1)).toNat < mm2 from by omega) (j + 1) w7 (by omega) (by omega) (all_step (q := fun k => elB ((m.gZ_l.getD (i).toNat rw0).gS_l.getD k 0) = true) j0 hq2 fk7) S7 rfl
                  · skip
                    refine J.head (.bool true) (congrArg Value.bool (by rw [fk7]; rfl)) ?_
                    refine J.run 5 K16_20 [(2, .bool false)] w7 (by kernel_rfl) ?_
                    refine J.ret Try.f16 [.bool false] Try.func16 ⟨by kernel_rfl, trivial⟩ ?_
                    refine hR _ _ ?_
                    exact ⟨congrArg Value.bool (valid_bad h0 (by omega) (row_no (.inr (all_no 0 (j := j.toNat) (by omega) fk7)))).symm, S7.nil⟩
                · skip
                  refine J.head (.bool false) (congrArg Value.bool (decide_eq_false fk6)) ?_
                  refine J.run 6 K16_21 [(30, .int .i64 (IntKind.wrap .i64 (i + 1))), (1, .pointer (some ⟨b1, 0, none⟩))] w6 (by kernel_rfl) ?_
                  refine J.head (.int .i64 (i + 1)) (congrArg (Value.int .i64) (IntWalk.i64_in _ (by omega))) ?_
                  refine J.run 3 K16_8 [(3, .int .i64 (i + 1)), (1, .pointer (some ⟨b1, 0, none⟩))] w6 (by kernel_rfl) ?_
                  refine J.run 0 K16_8 [(3, .int .i64 (i + 1)), (1, .pointer (some ⟨b1, 0, none⟩))] w6 (by kernel_rfl) ?_
                  exact ih1 _ (show ((m.gZ_n : Int) - (i + 1)).toNat < mm1 from by omega) (i + 1) w6 (by omega) (by omega) (all_step h0 hq (row_yes (by omega) ((all_getD 0).2 fun k hk => hq2 k (by omega)))) S6 rfl
              exact L16_2 _ 0 w5 (by omega) (by omega) (by intro k hk; simp at hk) S5 rfl
            · skip
              refine J.head (.bool true) (congrArg Value.bool (bne_iff_ne.2 fk5)) ?_
              refine J.run 5 K16_22 [(2, .bool false)] w5 (by kernel_rfl) ?_
              refine J.ret Try.f16 [.bool false] Try.func16 ⟨by kernel_rfl, trivial⟩ ?_
              refine hR _ _ ?_
              exact ⟨congrArg Value.bool (valid_bad h0 (by omega) (row_no (.inl (by omega)))).symm, S5.nil⟩
          · skip
            refine J.head (.bool false) (congrArg Value.bool (decide_eq_false fk4)) ?_
            refine J.run 6 K16_23 [(2, .bool true)] w4 (by kernel_rfl) ?_
            refine J.ret Try.f16 [.bool true] Try.func16 ⟨by kernel_rfl, trivial⟩ ?_
            refine hR _ _ ?_
            exact ⟨congrArg Value.bool (valid_yes fk1 fk2 (by omega) fun j hj => hq j (by omega)).symm, S4.nil⟩
        exact L16_1 _ 0 w3 (by omega) (by omega) (by intro j hj; simp at hj) S3 rfl
      · skip
        refine J.head (.bool true) (congrArg Value.bool (bne_iff_ne.2 fk3)) ?_
        refine J.run 5 K16_24 [(2, .bool false)] w3 (by kernel_rfl) ?_
        refine J.ret Try.f16 [.bool false] Try.func16 ⟨by kernel_rfl, trivial⟩ ?_
        refine hR _ _ ?_
        exact ⟨congrArg Value.bool (valid_no (by first | exact .inl fk2 | exact .inr (.inl fk2) | exact .inr (.inr (by omega)))).symm, S3.nil⟩
    · skip
      refine J.head (.bool true) (congrArg Value.bool (by rw [fk2]; rfl)) ?_
      refine J.run 14 K16_25 [(2, .bool false)] w3 (by kernel_rfl) ?_
      refine J.ret Try.f16 [.bool false] Try.func16 ⟨by kernel_rfl, trivial⟩ ?_
      refine hR _ _ ?_
      exact ⟨congrArg Value.bool (valid_no (by first | exact .inl fk2 | exact .inr (.inl fk2) | exact .inr (.inr (by omega)))).symm, S3.nil⟩
  · skip
    refine J.head (.bool true) (congrArg Value.bool (by rw [fk1]; rfl)) ?_
    refine J.run 20 K16_26 [(2, .bool false)] w2 (by kernel_rfl) ?_
    refine J.ret Try.f16 [.bool false] Try.func16 ⟨by kernel_rfl, trivial⟩ ?_
    refine hR _ _ ?_
    exact ⟨congrArg Value.bool (valid_no (by first | exact .inl fk1 | exact .inr (.inl fk1) | exact .inr (.inr (by omega)))).symm, S2.nil⟩

/-- each element is at least the one before it in X -/
def risesM (m : Mp) : Bool := validM m && (List.range (m.gX_n - 1)).all fun i => (List.range m.gY_n).all fun j => decide (zF m i j ≤ zF m (i + 1) j)
theorem rises_invalid {m : Mp} (h : validM m = false) : risesM m = false := by unfold risesM; rw [h]; rfl
theorem rises_bad {m : Mp} {i j : Int} (h0 : 1 ≤ i) (hi : i < (m.gX_n : Int)) (j0 : 0 ≤ j) (hj : j < (m.gY_n : Int)) (h : zF m i.toNat j.toNat < zF m (i - 1).toNat j.toNat) : risesM m = false := by
  unfold risesM
  rw [all_range_false (j := (i - 1).toNat) (by omega) (all_range_false (j := j.toNat) (by omega) (decide_eq_false (by rw [show (i - 1).toNat + 1 = i.toNat by omega]; omega))), Bool.and_false]
theorem rises_yes {m : Mp} (hv : validM m = true) (h : ∀ i, i + 1 < m.gX_n → ∀ j, j < m.gY_n → zF m i j ≤ zF m (i + 1) j) : risesM m = true := by
  unfold risesM
  rw [hv, Bool.true_and]
  exact all_range_true fun i hi => all_range_true fun j hj => decide_eq_true (h i (by omega) j hj)
theorem rises_facts {m : Mp} (h : risesM m = true) : validM m = true ∧ ∀ i, i + 1 < m.gX_n → ∀ j, j < m.gY_n → zF m i j ≤ zF m (i + 1) j := by
  simp only [risesM, Bool.and_eq_true, List.all_eq_true, List.mem_range, decide_eq_true_eq] at h
  exact ⟨h.1, fun i hi j hj => h.2 i (by omega) j hj⟩
theorem rise_step {m : Mp} {i : Int} (h0 : 1 ≤ i) (hq : ∀ a, a + 1 < i.toNat → ∀ j, j < m.gY_n → zF m a j ≤ zF m (a + 1) j) (h : ∀ j, j < m.gY_n → zF m (i - 1).toNat j ≤ zF m i.toNat j) : ∀ a, a + 1 < (i + 1).toNat → ∀ j, j < m.gY_n → zF m a j ≤ zF m (a + 1) j := by
  intro a ha j hj
  by_cases e : a + 1 = i.toNat
  · have := h j hj
    rw [← e, show (i - 1).toNat = a by omega] at this; exact this
  · exact hq a (by omega) j hj
theorem hb17 : HasBody Try.prog 17 := fun _ _ => by kernel_rfl
noncomputable def K17_0 : List Item := adv 2 [] (bodyOf Try.f17)
noncomputable def K17_1 : List Item := adv 5 [] (popK K17_0)
noncomputable def K17_2 : List Item := adv 2 [] (popK (popK K17_1))
noncomputable def K17_3 : List Item := adv 9 [false] K17_2
noncomputable def K17_4 : List Item := adv 5 [] K17_3
noncomputable def K17_5 : List Item := adv 3 [] (popK K17_4)
noncomputable def K17_6 : List Item := adv 7 [true] K17_5
noncomputable def K17_7 : List Item := adv 5 [] (popK K17_6)
noncomputable def K17_8 : List Item := adv 5 [] K17_7
noncomputable def K17_9 : List Item := adv 10 [true] K17_8
noncomputable def K17_10 : List Item := adv 5 [true] (rRest K17_9)
noncomputable def K17_11 : List Item := adv 5 [false] (rRest K17_9)
noncomputable def K17_12 : List Item := adv 6 [false] K17_8
noncomputable def K17_13 : List Item := adv 6 [false] K17_5
noncomputable def K17_14 : List Item := adv 5 [true] K17_2
set_option maxRecDepth 20000 in
set_option maxHeartbeats 20000000 in
theorem rising_any (m : Mp) (w : World) (hm : mpQ w m) : Ret Try.prog 17 #[.agg #[.slice m.gX_a m.gX_n m.gX_c, .slice m.gY_a m.gY_n m.gY_c, .slice m.gZ_a m.gZ_n m.gZ_c]] w (fun v w' => v = .bool (risesM m) ∧ Sep w [] w') := by
  have S0 := Sep.refl w
  refine Ret.named fun R hR => ?_
  refine Ret.of_J (N := 40) [(0, .agg #[.slice m.gX_a m.gX_n m.gX_c, .slice m.gY_a m.gY_n m.gY_c, .slice m.gZ_a m.gZ_n m.gZ_c])] Try.func17 rfl rfl (Nat.le_of_ble_eq_true (by kernel_rfl)) (by kernel_rfl) ?_
  obtain ⟨q1, q2, q3, q4, q5, q6, q7, q8, q9, _⟩ := id hm
  have ql1 := q2.len_eq
  have ql2 := q5.len_eq
  have ql3 := q8.len_eq
  refine J.run 2 K17_0 [(0, .agg #[.slice m.gX_a m.gX_n m.gX_c, .slice m.gY_a m.gY_n m.gY_c, .slice m.gZ_a m.gZ_n m.gZ_c])] w (by kernel_rfl) ?_
  refine J.new S0 1 [.slice m.gX_a m.gX_n m.gX_c, .slice m.gY_a m.gY_n m.gY_c, .slice m.gZ_a m.gZ_n m.gZ_c] 25 (by kernel_rfl) ?_
  intro b1 w1 S1
  refine J.run 5 K17_1 [(1, .pointer (some ⟨b1, 0, none⟩))] w1 (by kernel_rfl) ?_
  refine J.ok (OK.ldBox S1 0 5 25 0 (.agg #[.slice m.gX_a m.gX_n m.gX_c, .slice m.gY_a m.gY_n m.gY_c, .slice m.gZ_a m.gZ_n m.gZ_c]) (by kernel_rfl) rfl (by kernel_rfl)) ?_
  refine J.callF 6 15 #[.agg #[.slice m.gX_a m.gX_n m.gX_c, .slice m.gY_a m.gY_n m.gY_c, .slice m.gZ_a m.gZ_n m.gZ_c]] hb15 (by kernel_rfl) (valid_any m _ (mpQ_sep hm S1)) ?_
  rintro _ w2 ⟨rfl, T1⟩
  have S2 : Sep w [box b1 [.slice m.gX_a m.gX_n m.gX_c, .slice m.gY_a m.gY_n m.gY_c, .slice m.gZ_a m.gZ_n m.gZ_c] 25] w2 := S1.trans T1
  clear T1 S1
  refine J.run 2 K17_2 [(7, .bool (!(validM m))), (1, .pointer (some ⟨b1, 0, none⟩))] w2 (by kernel_rfl) ?_
  rcases Bool.eq_false_or_eq_true (validM m) with fk1 | fk1
  · skip
    refine J.head (.bool false) (congrArg Value.bool (by rw [fk1]; rfl)) ?_
    obtain ⟨hv1, hv2, hv3, hv4⟩ := valid_facts fk1
    obtain ⟨hx1, hx2, hx3⟩ := axis_facts hv1
    obtain ⟨hy1, hy2, hy3⟩ := axis_facts hv2
    refine J.run 9 K17_3 [(3, .int .i64 1), (1, .pointer (some ⟨b1, 0, none⟩))] w2 (by kernel_rfl) ?_
    have L17_1 : ∀ (mm_ : Nat) (i : Int) (w3 : World), (1 ≤ i) → (i ≤ (m.gX_n : Int)) → (∀ a, a + 1 < (i).toNat → ∀ j, j < m.gY_n → zF m a j ≤ zF m (a + 1) j) → Sep w [box b1 [.slice m.gX_a m.gX_n m.gX_c, .slice m.gY_a m.gY_n m.gY_c, .slice m.gZ_a m.gZ_n m.gZ_c] 25] w3 → ((m.gX_n : Int) - i).toNat = mm_ → J Try.prog 17 40 R K17_3 [(3, .int .i64 i), (1, .pointer (some ⟨b1, 0, none⟩))] w3 := by
      intro mm1
      induction mm1 using Nat.strongRecOn with
      | _ mm1 ih1 =>
      intro i w3 h0 h1 hq S3 hm1
      have hw1 : i < (m.gX_n : Int) → _ := fun h => hv4 i.toNat (by omega)
      have hw2 : i < (m.gX_n : Int) → _ := fun h => hv4 (i - 1).toNat (by omega)
      refine J.run 5 K17_4 [(9, .pointer (some ⟨b1, 2, none⟩)), (8, .int .i64 i), (3, .int .i64 i), (1, .pointer (some ⟨b1, 0, none⟩))] w3 (by kernel_rfl) ?_
      refine J.ok (OK.ldBox S3 0 10 23 2 (.slice m.gZ_a m.gZ_n m.gZ_c) (by kernel_rfl) rfl (by kernel_rfl)) ?_
      refine J.run 3 K17_5 [(12, .bool (decide (i < (m.gZ_n : Int)))), (3, .int .i64 i), (1, .pointer (some ⟨b1, 0, none⟩))] w3 (by kernel_rfl) ?_
      by_cases fk2 : i < (m.gZ_n : Int)
      · skip
        refine J.head (.bool true) (congrArg Value.bool (decide_eq_true fk2)) ?_
        refine J.run 7 K17_6 [(15, .pointer (some ⟨b1, 1, none⟩)), (3, .int .i64 i), (1, .pointer (some ⟨b1, 0, none⟩))] w3 (by kernel_rfl) ?_
        refine J.ok (OK.ldBox S3 0 16 22 1 (.slice m.gY_a m.gY_n m.gY_c) (by kernel_rfl) rfl (by kernel_rfl)) ?_
        refine J.run 5 K17_7 [(18, .int .i64 0), (17, .int .i64 (m.gY_n : Int)), (3, .int .i64 i), (1, .pointer (some ⟨b1, 0, none⟩))] w3 (by kernel_rfl) ?_
        have L17_2 : ∀ (mm_ : Nat) (j : Int) (w4 : World), (0 ≤ j) → (j ≤ (m.gY_n : Int)) → (∀ b, b < (j).toNat → zF m (i - 1).toNat b ≤ zF m i.toNat b) → Sep w [box b1 [.slice m.gX_a m.gX_n m.gX_c, .slice m.gY_a m.gY_n m.gY_c, .slice m.gZ_a m.gZ_n m.gZ_c] 25] w4 → ((m.gY_n : Int) - j).toNat = mm_ → J Try.prog 17 40 R K17_7 [(18, .int .i64 j), (17, .int .i64 (m.gY_n : Int)), (3, .int .i64 i), (1, .pointer (some ⟨b1, 0, none⟩))] w4 := by
          intro mm2
          induction mm2 using Nat.strongRecOn with
          | _ mm2 ih2 =>
          intro j w4 j0 j1 hr S4 hm2
          have hw3 := (hw1 (by omega)).1
          have hw4 := (hw2 (by omega)).1
          refine J.run 5 K17_8 [(19, .bool (decide (j < (m.gY_n : Int)))), (18, .int .i64 j), (17, .int .i64 (m.gY_n : Int)), (3, .int .i64 i), (1, .pointer (some ⟨b1, 0, none⟩))] w4 (by kernel_rfl) ?_
          by_cases fk3 : j < (m.gY_n : Int)
          · skip
            refine J.head (.bool true) (congrArg Value.bool (decide_eq_true fk3)) ?_
            refine J.run 10 K17_9 [(4, .int .i64 j), (18, .int .i64 j), (17, .int .i64 (m.gY_n : Int)), (3, .int .i64 i), (1, .pointer (some ⟨b1, 0, none⟩))] w4 (by kernel_rfl) ?_
            obtain ⟨p1, hp1, hc1⟩ := q8.at rw0 (i).toNat (by omega)
            have hel1 := getD_Q q9 rw0 (n := (i).toNat) (by have := q8.len_eq; omega)
            obtain ⟨q10, q11, q12, _⟩ := id hel1
            have ql4 := q11.len_eq
            obtain ⟨p2, hp2, hc2⟩ := q11.at 0 (j).toNat (by omega)
            have hel2 := getD_Q q12 0 (n := (j).toNat) (by have := q11.len_eq; omega)
            obtain ⟨p3, hp3, hc3⟩ := q8.at rw0 (i - 1).toNat (by omega)
            have hel3 := getD_Q q9 rw0 (n := (i - 1).toNat) (by have := q8.len_eq; omega)
            obtain ⟨q13, q14, q15, _⟩ := id hel3
            have ql5 := q14.len_eq
            obtain ⟨p4, hp4, hc4⟩ := q14.at 0 (j).toNat (by omega)
            have hel4 := getD_Q q15 0 (n := (j).toNat) (by have := q14.len_eq; omega)
            refine J.drawStill S4 18 Try.mixed (by kernel_rfl) (by kernel_rfl) (by kernel_rfl) ?_
            intro w5 S5
            refine SL.ok (by decide) (OK.run 21 (.pointer (some ⟨b1, 2, none⟩)) (by kernel_rfl)) ?_
            refine SL.ok (by decide) (OK.ldBox S5 0 22 23 2 (.slice m.gZ_a m.gZ_n m.gZ_c) (by kernel_rfl) rfl (by kernel_rfl)) ?_
            refine SL.ok (by decide) (OK.run 23 (.int .i64 i) (by kernel_rfl)) ?_
            refine SL.ok (by decide) (OK.index 24 23 1 m.gZ_a p1 m.gZ_n (i).toNat i (p1.add ((i).toNat * 1)) (by kernel_rfl) (by kernel_rfl) hp1 (by omega) (by omega) rfl) ?_
            refine SL.ok (by decide) (OK.ldCell 25 22 (p1.add ((i).toNat * 1)) (.slice ((m.gZ_l.getD (i).toNat rw0).gS_a) ((m.gZ_l.getD (i).toNat rw0).gS_n) ((m.gZ_l.getD (i).toNat rw0).gS_c)) (by kernel_rfl) (by kernel_rfl) (S5.cell (cell_zero (hc1 0 _ rfl)))) ?_
            refine SL.ok (by decide) (OK.run 26 (.int .i64 j) (by kernel_rfl)) ?_
            refine SL.ok (by decide) (OK.index 27 22 1 ((m.gZ_l.getD (i).toNat rw0).gS_a) p2 ((m.gZ_l.getD (i).toNat rw0).gS_n) (j).toNat j (p2.add (j).toNat) (by kernel_rfl) (by kernel_rfl) hp2 (by omega) (by omega) (by rw [Nat.mul_one])) ?_
            refine SL.ok (by decide) (OK.ldCell 28 3 (p2.add (j).toNat) (.int .i64 (((m.gZ_l.getD (i).toNat rw0).gS_l).getD (j).toNat 0)) (by kernel_rfl) (by kernel_rfl) (S5.cell hc2)) ?_
            refine SL.ok (by decide) (OK.run 29 (.pointer (some ⟨b1, 2, none⟩)) (by kernel_rfl)) ?_
            refine SL.ok (by decide) (OK.ldBox S5 0 30 23 2 (.slice m.gZ_a m.gZ_n m.gZ_c) (by kernel_rfl) rfl (by kernel_rfl)) ?_
            refine SL.ok (by decide) (OK.run 31 (.int .i64 i) (by kernel_rfl)) ?_
            refine SL.ok (by decide) (OK.run 32 (.int .i64 (IntKind.wrap .i64 (i - 1))) (by kernel_rfl)) ?_
            refine SL.head (.int .i64 (i - 1)) (congrArg (Value.int .i64) (IntWalk.i64_in _ (by omega))) ?_
            refine SL.ok (by decide) (OK.index 33 23 1 m.gZ_a p3 m.gZ_n (i - 1).toNat (i - 1) (p3.add ((i - 1).toNat * 1)) (by kernel_rfl) (by kernel_rfl) hp3 (by omega) (by omega) rfl) ?_
            refine SL.ok (by decide) (OK.ldCell 34 22 (p3.add ((i - 1).toNat * 1)) (.slice ((m.gZ_l.getD (i - 1).toNat rw0).gS_a) ((m.gZ_l.getD (i - 1).toNat rw0).gS_n) ((m.gZ_l.getD (i - 1).toNat rw0).gS_c)) (by kernel_rfl) (by kernel_rfl) (S5.cell (cell_zero (hc3 0 _ rfl)))) ?_
            refine SL.ok (by decide) (OK.run 35 (.int .i64 j) (by kernel_rfl)) ?_
            refine SL.ok (by decide) (OK.index 36 22 1 ((m.gZ_l.getD (i - 1).toNat rw0).gS_a) p4 ((m.gZ_l.getD (i - 1).toNat rw0).gS_n) (j).toNat j (p4.add (j).toNat) (by kernel_rfl) (by kernel_rfl) hp4 (by omega) (by omega) (by rw [Nat.mul_one])) ?_
            refine SL.ok (by decide) (OK.ldCell 37 3 (p4.add (j).toNat) (.int .i64 (((m.gZ_l.getD (i - 1).toNat rw0).gS_l).getD (j).toNat 0)) (by kernel_rfl) (by kernel_rfl) (S5.cell hc4)) ?_
            refine SL.ok (by decide) (OK.run 38 (.bool (decide ((((m.gZ_l.getD (i).toNat rw0).gS_l).getD (j).toNat 0) < (((m.gZ_l.getD (i - 1).toNat rw0).gS_l).getD (j).toNat 0)))) (by kernel_rfl)) ?_
            refine SL.done ?_
            refine TL.done (by kernel_rfl) ?_
            refine J.run 0 (rRest K17_9) [(38, .bool (decide ((((m.gZ_l.getD (i).toNat rw0).gS_l).getD (j).toNat 0) < (((m.gZ_l.getD (i - 1).toNat rw0).gS_l).getD (j).toNat 0)))), (18, .int .i64 j), (17, .int .i64 (m.gY_n : Int)), (3, .int .i64 i), (1, .pointer (some ⟨b1, 0, none⟩))] w5 (by kernel_rfl) ?_
            by_cases fk4 : (((m.gZ_l.getD (i).toNat rw0).gS_l).getD (j).toNat 0) < (((m.gZ_l.getD (i - 1).toNat rw0).gS_l).getD (j).toNat 0)
            · skip
              refine J.head (.bool true) (congrArg Value.bool (decide_eq_true fk4)) ?_
              refine J.run 5 K17_10 [(2, .bool false)] w5 (by kernel_rfl) ?_
              refine J.ret Try.f17 [.bool false] Try.func17 ⟨by kernel_rfl, trivial⟩ ?_
              refine hR _ _ ?_
              exact ⟨congrArg Value.bool (rises_bad (i := i) (j := j) (by omega) (by omega) (by omega) (by omega) (by unfold zF; omega)).symm, S5.nil⟩
            · skip
              refine J.head (.bool false) (congrArg Value.bool (decide_eq_false fk4)) ?_
              refine J.run 5 K17_11 [(39, .int .i64 (IntKind.wrap .i64 (j + 1))), (17, .int .i64 (m.gY_n : Int)), (3, .int .i64 i), (1, .pointer (some ⟨b1, 0, none⟩))] w5 (by kernel_rfl) ?_
              refine J.head (.int .i64 (j + 1)) (congrArg (Value.int .i64) (IntWalk.i64_in _ (by omega))) ?_
              refine J.run 3 K17_7 [(18, .int .i64 (j + 1)), (17, .int .i64 (m.gY_n : Int)), (3, .int .i64 i), (1, .pointer (some ⟨b1, 0, none⟩))] w5 (by kernel_rfl) ?_
              refine J.run 0 K17_7 [(18, .int .i64 (j + 1)), (17, .int .i64 (m.gY_n : Int)), (3, .int .i64 i), (1, .pointer (some ⟨b1, 0, none⟩))] w5 (by kernel_rfl) ?_
              exact ih2 _ (show ((m.gY_n : Int) - (j + 1)).toNat < mm2 from by omega) (j + 1) w5 (by omega) (by omega) (all_step (q := fun b => zF m (i - 1).toNat b ≤ zF m i.toNat b) j0 hr (by unfold zF; omega)) S5 rfl
          · skip
            refine J.head (.bool false) (congrArg Value.bool (decide_eq_false fk3)) ?_
            refine J.run 6 K17_12 [(14, .int .i64 (IntKind.wrap .i64 (i + 1))), (1, .pointer (some ⟨b1, 0, none⟩))] w4 (by kernel_rfl) ?_
            refine J.head (.int .i64 (i + 1)) (congrArg (Value.int .i64) (IntWalk.i64_in _ (by omega))) ?_
            refine J.run 3 K17_3 [(3, .int .i64 (i + 1)), (1, .pointer (some ⟨b1, 0, none⟩))] w4 (by kernel_rfl) ?_
            refine J.run 0 K17_3 [(3, .int .i64 (i + 1)), (1, .pointer (some ⟨b1, 0, none⟩))] w4 (by kernel_rfl) ?_
            exact ih1 _ (show ((m.gX_n : Int) - (i + 1)).toNat < mm1 from by omega) (i + 1) w4 (by omega) (by omega) (rise_step h0 hq fun b hb => hr b (by omega)) S4 rfl
        exact L17_2 _ 0 w3 (by omega) (by omega) (by intro b hb; simp at hb) S3 rfl
      · skip
        refine J.head (.bool false) (congrArg Value.bool (decide_eq_false fk2)) ?_
        refine J.run 6 K17_13 [(2, .bool true)] w3 (by kernel_rfl) ?_
        refine J.ret Try.f17 [.bool true] Try.func17 ⟨by kernel_rfl, trivial⟩ ?_
        refine hR _ _ ?_
        exact ⟨congrArg Value.bool (rises_yes fk1 fun a ha b hb => hq a (by omega) b hb).symm, S3.nil⟩
    exact L17_1 _ 1 w2 (by omega) (by omega) (by intro a ha; simp at ha) S2 rfl
  · skip
    refine J.head (.bool true) (congrArg Value.bool (by rw [fk1]; rfl)) ?_
    refine J.run 5 K17_14 [(2, .bool false)] w2 (by kernel_rfl) ?_
    refine J.ret Try.f17 [.bool false] Try.func17 ⟨by kernel_rfl, trivial⟩ ?_
    refine hR _ _ ?_
    exact ⟨congrArg Value.bool (rises_invalid fk1).symm, S2.nil⟩

theorem hb18 : HasBody Try.prog 18 := fun _ _ => by kernel_rfl
noncomputable def K18_0 : List Item := adv 2 [] (bodyOf Try.f18)
noncomputable def K18_1 : List Item := adv 5 [] (popK K18_0)
noncomputable def K18_2 : List Item := adv 2 [] (popK (popK K18_1))
noncomputable def K18_3 : List Item := adv 9 [false] K18_2
noncomputable def K18_4 : List Item := adv 5 [] K18_3
noncomputable def K18_5 : List Item := adv 3 [] (popK K18_4)
noncomputable def K18_6 : List Item := adv 10 [true] K18_5
noncomputable def K18_7 : List Item := adv 5 [] K18_6
noncomputable def K18_8 : List Item := adv 3 [] (popK K18_7)
noncomputable def K18_9 : List Item := adv 5 [true] K18_8
noncomputable def K18_10 : List Item := adv 5 [true] (rRest K18_9)
noncomputable def K18_11 : List Item := adv 6 [false] (rRest K18_9)
noncomputable def K18_12 : List Item := adv 6 [false] K18_8
noncomputable def K18_13 : List Item := adv 6 [false] K18_5
noncomputable def K18_14 : List Item := adv 5 [true] K18_2
set_option maxRecDepth 20000 in
set_option maxHeartbeats 20000000 in
theorem rrising_any (m : Mp) (w : World) (hm : mpQ w m) : Ret Try.prog 18 #[.agg #[.slice m.gX_a m.gX_n m.gX_c, .slice m.gY_a m.gY_n m.gY_c, .slice m.gZ_a m.gZ_n m.gZ_c]] w (fun v w' => v = .bool (risesM m) ∧ Sep w [] w') := by
  have S0 := Sep.refl w
  refine Ret.named fun R hR => ?_
  refine Ret.of_J (N := 40) [(0, .agg #[.slice m.gX_a m.gX_n m.gX_c, .slice m.gY_a m.gY_n m.gY_c, .slice m.gZ_a m.gZ_n m.gZ_c])] Try.func18 rfl rfl (Nat.le_of_ble_eq_true (by kernel_rfl)) (by kernel_rfl) ?_
  obtain ⟨q1, q2, q3, q4, q5, q6, q7, q8, q9, _⟩ := id hm
  have ql1 := q2.len_eq
  have ql2 := q5.len_eq
  have ql3 := q8.len_eq
  refine J.run 2 K18_0 [(0, .agg #[.slice m.gX_a m.gX_n m.gX_c, .slice m.gY_a m.gY_n m.gY_c, .slice m.gZ_a m.gZ_n m.gZ_c])] w (by kernel_rfl) ?_
  refine J.new S0 1 [.slice m.gX_a m.gX_n m.gX_c, .slice m.gY_a m.gY_n m.gY_c, .slice m.gZ_a m.gZ_n m.gZ_c] 25 (by kernel_rfl) ?_
  intro b1 w1 S1
  refine J.run 5 K18_1 [(1, .pointer (some ⟨b1, 0, none⟩))] w1 (by kernel_rfl) ?_
  refine J.ok (OK.ldBox S1 0 5 25 0 (.agg #[.slice m.gX_a m.gX_n m.gX_c, .slice m.gY_a m.gY_n m.gY_c, .slice m.gZ_a m.gZ_n m.gZ_c]) (by kernel_rfl) rfl (by kernel_rfl)) ?_
  refine J.callF 6 16 #[.agg #[.slice m.gX_a m.gX_n m.gX_c, .slice m.gY_a m.gY_n m.gY_c, .slice m.gZ_a m.gZ_n m.gZ_c]] hb16 (by kernel_rfl) (rvalid_any m _ (mpQ_sep hm S1)) ?_
  rintro _ w2 ⟨rfl, T1⟩
  have S2 : Sep w [box b1 [.slice m.gX_a m.gX_n m.gX_c, .slice m.gY_a m.gY_n m.gY_c, .slice m.gZ_a m.gZ_n m.gZ_c] 25] w2 := S1.trans T1
  clear T1 S1
  refine J.run 2 K18_2 [(7, .bool (!(validM m))), (1, .pointer (some ⟨b1, 0, none⟩))] w2 (by kernel_rfl) ?_
  rcases Bool.eq_false_or_eq_true (validM m) with fk1 | fk1
  · skip
    refine J.head (.bool false) (congrArg Value.bool (by rw [fk1]; rfl)) ?_
    obtain ⟨hv1, hv2, hv3, hv4⟩ := valid_facts fk1
    obtain ⟨hx1, hx2, hx3⟩ := axis_facts hv1
    obtain ⟨hy1, hy2, hy3⟩ := axis_facts hv2
    refine J.run 9 K18_3 [(3, .int .i64 1), (1, .pointer (some ⟨b1, 0, none⟩))] w2 (by kernel_rfl) ?_
    have L18_1 : ∀ (mm_ : Nat) (i : Int) (w3 : World), (1 ≤ i) → (i ≤ (m.gX_n : Int)) → (∀ a, a + 1 < (i).toNat → ∀ j, j < m.gY_n → zF m a j ≤ zF m (a + 1) j) → Sep w [box b1 [.slice m.gX_a m.gX_n m.gX_c, .slice m.gY_a m.gY_n m.gY_c, .slice m.gZ_a m.gZ_n m.gZ_c] 25] w3 → ((m.gX_n : Int) - i).toNat = mm_ → J Try.prog 18 40 R K18_3 [(3, .int .i64 i), (1, .pointer (some ⟨b1, 0, none⟩))] w3 := by
      intro mm1
      induction mm1 using Nat.strongRecOn with
      | _ mm1 ih1 =>
      intro i w3 h0 h1 hq S3 hm1
      have hw1 : i < (m.gX_n : Int) → _ := fun h => hv4 i.toNat (by omega)
      have hw2 : i < (m.gX_n : Int) → _ := fun h => hv4 (i - 1).toNat (by omega)
      refine J.run 5 K18_4 [(9, .pointer (some ⟨b1, 0, none⟩)), (8, .int .i64 i), (3, .int .i64 i), (1, .pointer (some ⟨b1, 0, none⟩))] w3 (by kernel_rfl) ?_
      refine J.ok (OK.ldBox S3 0 10 22 0 (.slice m.gX_a m.gX_n m.gX_c) (by kernel_rfl) rfl (by kernel_rfl)) ?_
      refine J.run 3 K18_5 [(12, .bool (decide (i < (m.gX_n : Int)))), (3, .int .i64 i), (1, .pointer (some ⟨b1, 0, none⟩))] w3 (by kernel_rfl) ?_
      by_cases fk2 : i < (m.gX_n : Int)
      · skip
        refine J.head (.bool true) (congrArg Value.bool (decide_eq_true fk2)) ?_
        refine J.run 10 K18_6 [(4, .int .i64 0), (3, .int .i64 i), (1, .pointer (some ⟨b1, 0, none⟩))] w3 (by kernel_rfl) ?_
        have L18_2 : ∀ (mm_ : Nat) (j : Int) (w4 : World), (0 ≤ j) → (j ≤ (m.gY_n : Int)) → (∀ b, b < (j).toNat → zF m (i - 1).toNat b ≤ zF m i.toNat b) → Sep w [box b1 [.slice m.gX_a m.gX_n m.gX_c, .slice m.gY_a m.gY_n m.gY_c, .slice m.gZ_a m.gZ_n m.gZ_c] 25] w4 → ((m.gY_n : Int) - j).toNat = mm_ → J Try.prog 18 40 R K18_6 [(4, .int .i64 j), (3, .int .i64 i), (1, .pointer (some ⟨b1, 0, none⟩))] w4 := by
          intro mm2
          induction mm2 using Nat.strongRecOn with
          | _ mm2 ih2 =>
          intro j w4 j0 j1 hr S4 hm2
          have hw3 := (hw1 (by omega)).1
          have hw4 := (hw2 (by omega)).1
          refine J.run 5 K18_7 [(16, .pointer (some ⟨b1, 1, none⟩)), (15, .int .i64 j), (4, .int .i64 j), (3, .int .i64 i), (1, .pointer (some ⟨b1, 0, none⟩))] w4 (by kernel_rfl) ?_
          refine J.ok (OK.ldBox S4 0 17 22 1 (.slice m.gY_a m.gY_n m.gY_c) (by kernel_rfl) rfl (by kernel_rfl)) ?_
          refine J.run 3 K18_8 [(19, .bool (decide (j < (m.gY_n : Int)))), (4, .int .i64 j), (3, .int .i64 i), (1, .pointer (some ⟨b1, 0, none⟩))] w4 (by kernel_rfl) ?_
          by_cases fk3 : j < (m.gY_n : Int)
          · skip
            refine J.head (.bool true) (congrArg Value.bool (decide_eq_true fk3)) ?_
            refine J.run 5 K18_9 [(4, .int .i64 j), (3, .int .i64 i), (1, .pointer (some ⟨b1, 0, none⟩))] w4 (by kernel_rfl) ?_
            obtain ⟨p1, hp1, hc1⟩ := q8.at rw0 (i - 1).toNat (by omega)
            have hel1 := getD_Q q9 rw0 (n := (i - 1).toNat) (by have := q8.len_eq; omega)
            obtain ⟨q10, q11, q12, _⟩ := id hel1
            have ql4 := q11.len_eq
            obtain ⟨p2, hp2, hc2⟩ := q11.at 0 (j).toNat (by omega)
            have hel2 := getD_Q q12 0 (n := (j).toNat) (by have := q11.len_eq; omega)
            obtain ⟨p3, hp3, hc3⟩ := q8.at rw0 (i).toNat (by omega)
            have hel3 := getD_Q q9 rw0 (n := (i).toNat) (by have := q8.len_eq; omega)
            obtain ⟨q13, q14, q15, _⟩ := id hel3
            have ql5 := q14.len_eq
            obtain ⟨p4, hp4, hc4⟩ := q14.at 0 (j).toNat (by omega)
            have hel4 := getD_Q q15 0 (n := (j).toNat) (by have := q14.len_eq; omega)
            refine J.drawStill S4 18 Try.mixed (by kernel_rfl) (by kernel_rfl) (by kernel_rfl) ?_
            intro w5 S5
            refine SL.ok (by decide) (OK.run 22 (.pointer (some ⟨b1, 2, none⟩)) (by kernel_rfl)) ?_
            refine SL.ok (by decide) (OK.ldBox S5 0 23 23 2 (.slice m.gZ_a m.gZ_n m.gZ_c) (by kernel_rfl) rfl (by kernel_rfl)) ?_
            refine SL.ok (by decide) (OK.run 24 (.int .i64 i) (by kernel_rfl)) ?_
            refine SL.ok (by decide) (OK.run 25 (.int .i64 (IntKind.wrap .i64 (i - 1))) (by kernel_rfl)) ?_
            refine SL.head (.int .i64 (i - 1)) (congrArg (Value.int .i64) (IntWalk.i64_in _ (by omega))) ?_
            refine SL.ok (by decide) (OK.index 26 23 1 m.gZ_a p1 m.gZ_n (i - 1).toNat (i - 1) (p1.add ((i - 1).toNat * 1)) (by kernel_rfl) (by kernel_rfl) hp1 (by omega) (by omega) rfl) ?_
            refine SL.ok (by decide) (OK.ldCell 27 22 (p1.add ((i - 1).toNat * 1)) (.slice ((m.gZ_l.getD (i - 1).toNat rw0).gS_a) ((m.gZ_l.getD (i - 1).toNat rw0).gS_n) ((m.gZ_l.getD (i - 1).toNat rw0).gS_c)) (by kernel_rfl) (by kernel_rfl) (S5.cell (cell_zero (hc1 0 _ rfl)))) ?_
            refine SL.ok (by decide) (OK.run 28 (.int .i64 j) (by kernel_rfl)) ?_
            refine SL.ok (by decide) (OK.index 29 22 1 ((m.gZ_l.getD (i - 1).toNat rw0).gS_a) p2 ((m.gZ_l.getD (i - 1).toNat rw0).gS_n) (j).toNat j (p2.add (j).toNat) (by kernel_rfl) (by kernel_rfl) hp2 (by omega) (by omega) (by rw [Nat.mul_one])) ?_
            refine SL.ok (by decide) (OK.ldCell 30 3 (p2.add (j).toNat) (.int .i64 (((m.gZ_l.getD (i - 1).toNat rw0).gS_l).getD (j).toNat 0)) (by kernel_rfl) (by kernel_rfl) (S5.cell hc2)) ?_
            refine SL.ok (by decide) (OK.run 31 (.pointer (some ⟨b1, 2, none⟩)) (by kernel_rfl)) ?_
            refine SL.ok (by decide) (OK.ldBox S5 0 32 23 2 (.slice m.gZ_a m.gZ_n m.gZ_c) (by kernel_rfl) rfl (by kernel_rfl)) ?_
            refine SL.ok (by decide) (OK.run 33 (.int .i64 i) (by kernel_rfl)) ?_
            refine SL.ok (by decide) (OK.index 34 23 1 m.gZ_a p3 m.gZ_n (i).toNat i (p3.add ((i).toNat * 1)) (by kernel_rfl) (by kernel_rfl) hp3 (by omega) (by omega) rfl) ?_
            refine SL.ok (by decide) (OK.ldCell 35 22 (p3.add ((i).toNat * 1)) (.slice ((m.gZ_l.getD (i).toNat rw0).gS_a) ((m.gZ_l.getD (i).toNat rw0).gS_n) ((m.gZ_l.getD (i).toNat rw0).gS_c)) (by kernel_rfl) (by kernel_rfl) (S5.cell (cell_zero (hc3 0 _ rfl)))) ?_
            refine SL.ok (by decide) (OK.run 36 (.int .i64 j) (by kernel_rfl)) ?_
            refine SL.ok (by decide) (OK.index 37 22 1 ((m.gZ_l.getD (i).toNat rw0).gS_a) p4 ((m.gZ_l.getD (i).toNat rw0).gS_n) (j).toNat j (p4.add (j).toNat) (by kernel_rfl) (by kernel_rfl) hp4 (by omega) (by omega) (by rw [Nat.mul_one])) ?_
            refine SL.ok (by decide) (OK.ldCell 38 3 (p4.add (j).toNat) (.int .i64 (((m.gZ_l.getD (i).toNat rw0).gS_l).getD (j).toNat 0)) (by kernel_rfl) (by kernel_rfl) (S5.cell hc4)) ?_
            refine SL.ok (by decide) (OK.run 39 (.bool (decide ((((m.gZ_l.getD (i - 1).toNat rw0).gS_l).getD (j).toNat 0) > (((m.gZ_l.getD (i).toNat rw0).gS_l).getD (j).toNat 0)))) (by kernel_rfl)) ?_
            refine SL.done ?_
            refine TL.done (by kernel_rfl) ?_
            refine J.run 0 (rRest K18_9) [(39, .bool (decide ((((m.gZ_l.getD (i - 1).toNat rw0).gS_l).getD (j).toNat 0) > (((m.gZ_l.getD (i).toNat rw0).gS_l).getD (j).toNat 0)))), (4, .int .i64 j), (3, .int .i64 i), (1, .pointer (some ⟨b1, 0, none⟩))] w5 (by kernel_rfl) ?_
            by_cases fk4 : (((m.gZ_l.getD (i - 1).toNat rw0).gS_l).getD (j).toNat 0) > (((m.gZ_l.getD (i).toNat rw0).gS_l).getD (j).toNat 0)
            · skip
              refine J.head (.bool true) (congrArg Value.bool (decide_eq_true fk4)) ?_
              refine J.run 5 K18_10 [(2, .bool false)] w5 (by kernel_rfl) ?_
              refine J.ret Try.f18 [.bool false] Try.func18 ⟨by kernel_rfl, trivial⟩ ?_
              refine hR _ _ ?_
              exact ⟨congrArg Value.bool (rises_bad (i := i) (j := j) (by omega) (by omega) (by omega) (by omega) (by unfold zF; omega)).symm, S5.nil⟩
            · skip
              refine J.head (.bool false) (congrArg Value.bool (decide_eq_false fk4)) ?_
              refine J.run 6 K18_11 [(21, .int .i64 (IntKind.wrap .i64 (j + 1))), (3, .int .i64 i), (1, .pointer (some ⟨b1, 0, none⟩))] w5 (by kernel_rfl) ?_
              refine J.head (.int .i64 (j + 1)) (congrArg (Value.int .i64) (IntWalk.i64_in _ (by omega))) ?_
              refine J.run 3 K18_6 [(4, .int .i64 (j + 1)), (3, .int .i64 i), (1, .pointer (some ⟨b1, 0, none⟩))] w5 (by kernel_rfl) ?_
              refine J.run 0 K18_6 [(4, .int .i64 (j + 1)), (3, .int .i64 i), (1, .pointer (some ⟨b1, 0, none⟩))] w5 (by kernel_rfl) ?_
              exact ih2 _ (show ((m.gY_n : Int) - (j + 1)).toNat < mm2 from by omega) (j + 1) w5 (by omega) (by omega) (all_step (q := fun b => zF m (i - 1).toNat b ≤ zF m i.toNat b) j0 hr (by unfold zF; omega)) S5 rfl
          · skip
            refine J.head (.bool false) (congrArg Value.bool (decide_eq_false fk3)) ?_
            refine J.run 6 K18_12 [(14, .int .i64 (IntKind.wrap .i64 (i + 1))), (1, .pointer (some ⟨b1, 0, none⟩))] w4 (by kernel_rfl) ?_
            refine J.head (.int .i64 (i + 1)) (congrArg (Value.int .i64) (IntWalk.i64_in _ (by omega))) ?_
            refine J.run 3 K18_3 [(3, .int .i64 (i + 1)), (1, .pointer (some ⟨b1, 0, none⟩))] w4 (by kernel_rfl) ?_
            refine J.run 0 K18_3 [(3, .int .i64 (i + 1)), (1, .pointer (some ⟨b1, 0, none⟩))] w4 (by kernel_rfl) ?_
            exact ih1 _ (show ((m.gX_n : Int) - (i + 1)).toNat < mm1 from by omega) (i + 1) w4 (by omega) (by omega) (rise_step h0 hq fun b hb => hr b (by omega)) S4 rfl
        exact L18_2 _ 0 w3 (by omega) (by omega) (by intro b hb; simp at hb) S3 rfl
      · skip
        refine J.head (.bool false) (congrArg Value.bool (decide_eq_false fk2)) ?_
        refine J.run 6 K18_13 [(2, .bool true)] w3 (by kernel_rfl) ?_
        refine J.ret Try.f18 [.bool true] Try.func18 ⟨by kernel_rfl, trivial⟩ ?_
        refine hR _ _ ?_
        exact ⟨congrArg Value.bool (rises_yes fk1 fun a ha b hb => hq a (by omega) b hb).symm, S3.nil⟩
    exact L18_1 _ 1 w2 (by omega) (by omega) (by intro a ha; simp at ha) S2 rfl
  · skip
    refine J.head (.bool true) (congrArg Value.bool (by rw [fk1]; rfl)) ?_
    refine J.run 5 K18_14 [(2, .bool false)] w2 (by kernel_rfl) ?_
    refine J.ret Try.f18 [.bool false] Try.func18 ⟨by kernel_rfl, trivial⟩ ?_
    refine hR _ _ ?_
    exact ⟨congrArg Value.bool (rises_invalid fk1).symm, S2.nil⟩

def longR (r : Rw) : Bool := decide ((r.gS_n : Int) > 40)
def fewB (m : Mp) : Bool := decide ((m.gX_n : Int) ≤ 40) && decide ((m.gY_n : Int) ≤ 40) && decide ((m.gZ_n : Int) ≤ 40) && !m.gZ_l.any longR
theorem hb34 : HasBody Try.prog 34 := fun _ _ => by kernel_rfl
noncomputable def K34_0 : List Item := adv 11 [] (bodyOf Try.f34)
set_option maxRecDepth 20000 in
set_option maxHeartbeats 20000000 in
theorem long_any (r : Rw) (w : World) : Ret Try.prog 34 #[.slice r.gS_a r.gS_n r.gS_c] w (fun v w' => v = .bool (longR r) ∧ Sep w [] w') := by
  have S0 := Sep.refl w
  refine Ret.named fun R hR => ?_
  refine Ret.of_J (N := 6) [(0, .slice r.gS_a r.gS_n r.gS_c)] Try.func34 rfl rfl (Nat.le_of_ble_eq_true (by kernel_rfl)) (by kernel_rfl) ?_
  refine J.run 11 K34_0 [(2, .bool (decide ((r.gS_n : Int) > 40)))] w (by kernel_rfl) ?_
  refine J.ret Try.f34 [.bool (decide ((r.gS_n : Int) > 40))] Try.func34 ⟨by kernel_rfl, trivial⟩ ?_
  refine hR _ _ ?_
  exact ⟨rfl, S0.nil⟩

theorem hb60 : HasBody Try.prog 60 := fun _ _ => by kernel_rfl
noncomputable def K60_0 : List Item := adv 13 [] (bodyOf Try.f60)
noncomputable def K60_1 : List Item := adv 5 [] K60_0
noncomputable def K60_2 : List Item := adv 14 [true] K60_1
noncomputable def K60_3 : List Item := adv 1 [] (popK (popK (popK K60_2)))
noncomputable def K60_4 : List Item := adv 6 [true] K60_3
noncomputable def K60_5 : List Item := adv 5 [false] K60_3
noncomputable def K60_6 : List Item := adv 6 [false] K60_1
set_option maxRecDepth 20000 in
set_option maxHeartbeats 20000000 in
theorem indexR0 (la : Option Addr) (len cap : Nat) (l : List Rw) (g : FuncId) (q : Rw → Bool) (w : World) (hI : Recs rwE 1 w la len l) (hlen : len ≤ 9223372036854775807) (hbg : HasBody Try.prog g) (hcall : ∀ (i : Nat) (w2 : World), i < l.length → Sep w [] w2 → Ret Try.prog g #[.slice ((l.getD i rw0).gS_a) ((l.getD i rw0).gS_n) ((l.getD i rw0).gS_c)] w2 (fun v w3 => v = .bool (q (l.getD i rw0)) ∧ Sep w2 [] w3)) : Ret Try.prog 60 #[.slice la len cap, .func (.func g) #[] #[]] w (fun v w' => v = .int .i64 (indexF q l) ∧ Sep w [] w') := by
  have S0 := Sep.refl w
  refine Ret.named fun R hR => ?_
  refine Ret.of_J (N := 19) [(0, .slice la len cap), (1, .func (.func g) #[] #[])] Try.func60 rfl rfl (Nat.le_of_ble_eq_true (by kernel_rfl)) (by kernel_rfl) ?_
  refine J.run 13 K60_0 [(8, .int .i64 0), (7, .int .i64 (len : Int)), (0, .slice la len cap), (1, .func (.func g) #[] #[])] w (by kernel_rfl) ?_
  have L60_1 : ∀ (mm_ : Nat) (i : Int) (w1 : World), (0 ≤ i) → (i ≤ (len : Int)) → (∀ j, j < (i).toNat → q (l.getD j rw0) = false) → Sep w [] w1 → ((len : Int) - i).toNat = mm_ → J Try.prog 60 19 R K60_0 [(8, .int .i64 i), (7, .int .i64 (len : Int)), (0, .slice la len cap), (1, .func (.func g) #[] #[])] w1 := by
    intro mm1
    induction mm1 using Nat.strongRecOn with
    | _ mm1 ih1 =>
    intro i w1 h0 h1 hq S1 hm1
    refine J.run 5 K60_1 [(9, .bool (decide (i < (len : Int)))), (8, .int .i64 i), (7, .int .i64 (len : Int)), (0, .slice la len cap), (1, .func (.func g) #[] #[])] w1 (by kernel_rfl) ?_
    by_cases fk1 : i < (len : Int)
    · skip
      refine J.head (.bool true) (congrArg Value.bool (decide_eq_true fk1)) ?_
      refine J.run 14 K60_2 [(13, .int .i64 i), (12, .slice la len cap), (11, .func (.func g) #[] #[]), (5, .int .i64 i), (8, .int .i64 i), (7, .int .i64 (len : Int)), (0, .slice la len cap), (1, .func (.func g) #[] #[])] w1 (by kernel_rfl) ?_
      obtain ⟨p1, hp1, hc1⟩ := hI.at rw0 (i).toNat (by omega)
      refine J.ok (OK.index 14 23 1 la p1 len (i).toNat i (p1.add ((i).toNat * 1)) (by kernel_rfl) (by kernel_rfl) hp1 (by omega) (by omega) rfl) ?_
      refine J.ok (OK.ldCell 15 22 (p1.add ((i).toNat * 1)) (.slice ((l.getD (i).toNat rw0).gS_a) ((l.getD (i).toNat rw0).gS_n) ((l.getD (i).toNat rw0).gS_c)) (by kernel_rfl) (by kernel_rfl) (S1.cell (cell_zero (hc1 0 _ rfl)))) ?_
      refine J.callF 16 g #[.slice ((l.getD (i).toNat rw0).gS_a) ((l.getD (i).toNat rw0).gS_n) ((l.getD (i).toNat rw0).gS_c)] hbg (by kernel_rfl) (hcall (i).toNat w1 (by have := hI.len_eq; omega) S1.nil) ?_
      rintro _ w2 ⟨rfl, T1⟩
      have S2 : Sep w [] w2 := S1.trans T1
      clear T1 S1
      refine J.run 1 K60_3 [(16, .bool (q (l.getD (i).toNat rw0))), (5, .int .i64 i), (8, .int .i64 i), (7, .int .i64 (len : Int)), (0, .slice la len cap), (1, .func (.func g) #[] #[])] w2 (by kernel_rfl) ?_
      rcases Bool.eq_false_or_eq_true (q (l.getD (i).toNat rw0)) with fk2 | fk2
      · skip
        refine J.head (.bool true) (congrArg Value.bool fk2) ?_
        refine J.run 6 K60_4 [(4, .int .i64 i)] w2 (by kernel_rfl) ?_
        refine J.ret Try.f60 [.int .i64 i] Try.func60 ⟨by kernel_rfl, trivial⟩ ?_
        refine hR _ _ ?_
        exact ⟨by rw [tup_one, indexF_some rw0 i.toNat (by have := hI.len_eq; omega) hq fk2, Int.toNat_of_nonneg h0], S2.nil⟩
      · skip
        refine J.head (.bool false) (congrArg Value.bool fk2) ?_
        refine J.run 5 K60_5 [(18, .int .i64 (IntKind.wrap .i64 (i + 1))), (7, .int .i64 (len : Int)), (0, .slice la len cap), (1, .func (.func g) #[] #[])] w2 (by kernel_rfl) ?_
        refine J.head (.int .i64 (i + 1)) (congrArg (Value.int .i64) (IntWalk.i64_in _ (by omega))) ?_
        refine J.run 3 K60_0 [(8, .int .i64 (i + 1)), (7, .int .i64 (len : Int)), (0, .slice la len cap), (1, .func (.func g) #[] #[])] w2 (by kernel_rfl) ?_
        refine J.run 0 K60_0 [(8, .int .i64 (i + 1)), (7, .int .i64 (len : Int)), (0, .slice la len cap), (1, .func (.func g) #[] #[])] w2 (by kernel_rfl) ?_
        exact ih1 _ (show ((len : Int) - (i + 1)).toNat < mm1 from by omega) (i + 1) w2 (by omega) (by omega) (by intro j hj; by_cases e : j = i.toNat; (subst e; exact fk2); exact hq j (by omega)) S2 rfl
    · skip
      refine J.head (.bool false) (congrArg Value.bool (decide_eq_false fk1)) ?_
      refine J.run 6 K60_6 [(4, .int .i64 (-1))] w1 (by kernel_rfl) ?_
      refine J.ret Try.f60 [.int .i64 (-1)] Try.func60 ⟨by kernel_rfl, trivial⟩ ?_
      refine hR _ _ ?_
      exact ⟨by rw [tup_one, indexF_none rw0 fun j hj => hq j (by have := hI.len_eq; omega)], S1.nil⟩
  exact L60_1 _ 0 w (by omega) (by omega) (by intro j hj; simp at hj) S0 rfl

theorem hb33 : HasBody Try.prog 33 := fun _ _ => by kernel_rfl
noncomputable def K33_0 : List Item := adv 8 [] (bodyOf Try.f33)
noncomputable def K33_1 : List Item := adv 3 [] (popK K33_0)
set_option maxRecDepth 20000 in
set_option maxHeartbeats 20000000 in
theorem containsR0 (la : Option Addr) (len cap : Nat) (l : List Rw) (g : FuncId) (q : Rw → Bool) (w : World) (hI : Recs rwE 1 w la len l) (hlen : len ≤ 9223372036854775807) (hbg : HasBody Try.prog g) (hcall : ∀ (i : Nat) (w2 : World), i < l.length → Sep w [] w2 → Ret Try.prog g #[.slice ((l.getD i rw0).gS_a) ((l.getD i rw0).gS_n) ((l.getD i rw0).gS_c)] w2 (fun v w3 => v = .bool (q (l.getD i rw0)) ∧ Sep w2 [] w3)) : Ret Try.prog 33 #[.slice la len cap, .func (.func g) #[] #[]] w (fun v w' => v = .bool (l.any q) ∧ Sep w [] w') := by
  have S0 := Sep.refl w
  refine Ret.named fun R hR => ?_
  refine Ret.of_J (N := 9) [(0, .slice la len cap), (1, .func (.func g) #[] #[])] Try.func33 rfl rfl (Nat.le_of_ble_eq_true (by kernel_rfl)) (by kernel_rfl) ?_
  refine J.run 8 K33_0 [(6, .func (.func g) #[] #[]), (5, .slice la len cap)] w (by kernel_rfl) ?_
  refine J.callF 7 60 #[.slice la len cap, .func (.func g) #[] #[]] hb60 (by kernel_rfl) (indexR0 la len cap l g  q _ (hI.sep S0) (by first | omega | (simp; omega)) hbg (hcall)) ?_
  rintro _ w1 ⟨rfl, T1⟩
  have S1 : Sep w [] w1 := S0.trans T1
  clear T1
  refine J.run 3 K33_1 [(4, .bool (decide ((indexF q l) ≥ 0)))] w1 (by kernel_rfl) ?_
  refine J.ret Try.f33 [.bool (decide ((indexF q l) ≥ 0))] Try.func33 ⟨by kernel_rfl, trivial⟩ ?_
  refine hR _ _ ?_
  exact ⟨congrArg Value.bool (by first | exact indexF_nonneg), S1.nil⟩

theorem hb12 : HasBody Try.prog 12 := fun _ _ => by kernel_rfl
noncomputable def K12_0 : List Item := adv 2 [] (bodyOf Try.f12)
noncomputable def K12_1 : List Item := adv 5 [] (popK K12_0)
noncomputable def K12_2 : List Item := adv 3 [] (popK K12_1)
noncomputable def K12_3 : List Item := adv 1 [] K12_2
noncomputable def K12_4 : List Item := adv 4 [] (popK K12_3)
noncomputable def K12_5 : List Item := adv 1 [] K12_4
noncomputable def K12_6 : List Item := adv 4 [] (popK K12_5)
noncomputable def K12_7 : List Item := adv 1 [] K12_6
noncomputable def K12_8 : List Item := adv 4 [] (popK (popK K12_7))
noncomputable def K12_9 : List Item := adv 7 [] K12_6
noncomputable def K12_10 : List Item := adv 13 [] K12_4
noncomputable def K12_11 : List Item := adv 19 [] K12_2
set_option maxRecDepth 20000 in
set_option maxHeartbeats 20000000 in
theorem few_any (m : Mp) (w : World) (hm : mpQ w m) : Ret Try.prog 12 #[.agg #[.slice m.gX_a m.gX_n m.gX_c, .slice m.gY_a m.gY_n m.gY_c, .slice m.gZ_a m.gZ_n m.gZ_c]] w (fun v w' => v = .bool (fewB m) ∧ Sep w [] w') := by
  have S0 := Sep.refl w
  refine Ret.named fun R hR => ?_
  refine Ret.of_J (N := 25) [(0, .agg #[.slice m.gX_a m.gX_n m.gX_c, .slice m.gY_a m.gY_n m.gY_c, .slice m.gZ_a m.gZ_n m.gZ_c])] Try.func12 rfl rfl (Nat.le_of_ble_eq_true (by kernel_rfl)) (by kernel_rfl) ?_
  obtain ⟨q1, q2, q3, q4, q5, q6, q7, q8, q9, _⟩ := id hm
  have ql1 := q2.len_eq
  have ql2 := q5.len_eq
  have ql3 := q8.len_eq
  refine J.run 2 K12_0 [(0, .agg #[.slice m.gX_a m.gX_n m.gX_c, .slice m.gY_a m.gY_n m.gY_c, .slice m.gZ_a m.gZ_n m.gZ_c])] w (by kernel_rfl) ?_
  refine J.new S0 1 [.slice m.gX_a m.gX_n m.gX_c, .slice m.gY_a m.gY_n m.gY_c, .slice m.gZ_a m.gZ_n m.gZ_c] 25 (by kernel_rfl) ?_
  intro b1 w1 S1
  refine J.run 5 K12_1 [(3, .pointer (some ⟨b1, 0, none⟩)), (1, .pointer (some ⟨b1, 0, none⟩))] w1 (by kernel_rfl) ?_
  refine J.ok (OK.ldBox S1 0 4 22 0 (.slice m.gX_a m.gX_n m.gX_c) (by kernel_rfl) rfl (by kernel_rfl)) ?_
  refine J.run 3 K12_2 [(7, .bool (decide ((m.gX_n : Int) ≤ 40))), (1, .pointer (some ⟨b1, 0, none⟩))] w1 (by kernel_rfl) ?_
  by_cases fk1 : (m.gX_n : Int) ≤ 40
  · skip
    refine J.head (.bool true) (congrArg Value.bool (decide_eq_true fk1)) ?_
    refine J.run 1 K12_3 [(8, .pointer (some ⟨b1, 1, none⟩)), (7, .bool true), (1, .pointer (some ⟨b1, 0, none⟩))] w1 (by kernel_rfl) ?_
    refine J.ok (OK.ldBox S1 0 9 22 1 (.slice m.gY_a m.gY_n m.gY_c) (by kernel_rfl) rfl (by kernel_rfl)) ?_
    refine J.run 4 K12_4 [(13, .bool (decide ((m.gY_n : Int) ≤ 40))), (1, .pointer (some ⟨b1, 0, none⟩))] w1 (by kernel_rfl) ?_
    by_cases fk2 : (m.gY_n : Int) ≤ 40
    · skip
      refine J.head (.bool true) (congrArg Value.bool (decide_eq_true fk2)) ?_
      refine J.run 1 K12_5 [(14, .pointer (some ⟨b1, 2, none⟩)), (13, .bool true), (1, .pointer (some ⟨b1, 0, none⟩))] w1 (by kernel_rfl) ?_
      refine J.ok (OK.ldBox S1 0 15 23 2 (.slice m.gZ_a m.gZ_n m.gZ_c) (by kernel_rfl) rfl (by kernel_rfl)) ?_
      refine J.run 4 K12_6 [(19, .bool (decide ((m.gZ_n : Int) ≤ 40))), (1, .pointer (some ⟨b1, 0, none⟩))] w1 (by kernel_rfl) ?_
      by_cases fk3 : (m.gZ_n : Int) ≤ 40
      · skip
        refine J.head (.bool true) (congrArg Value.bool (decide_eq_true fk3)) ?_
        refine J.run 1 K12_7 [(20, .pointer (some ⟨b1, 2, none⟩)), (19, .bool true)] w1 (by kernel_rfl) ?_
        refine J.ok (OK.ldBox S1 0 21 23 2 (.slice m.gZ_a m.gZ_n m.gZ_c) (by kernel_rfl) rfl (by kernel_rfl)) ?_
        refine J.callF 22 33 #[.slice m.gZ_a m.gZ_n m.gZ_c, .func (.func 34) #[] #[]] hb33 (by kernel_rfl) (containsR0 m.gZ_a m.gZ_n m.gZ_c m.gZ_l 34  longR _ (q8.sep S1) (by first | omega | (simp; omega)) hb34 (fun i_ w_ hi_ S_ => long_any _ w_)) ?_
        rintro _ w2 ⟨rfl, T1⟩
        have S2 : Sep w [box b1 [.slice m.gX_a m.gX_n m.gX_c, .slice m.gY_a m.gY_n m.gY_c, .slice m.gZ_a m.gZ_n m.gZ_c] 25] w2 := S1.trans T1
        clear T1 S1
        refine J.run 4 K12_8 [(2, .bool (!(List.any m.gZ_l longR)))] w2 (by kernel_rfl) ?_
        refine J.ret Try.f12 [.bool (!(List.any m.gZ_l longR))] Try.func12 ⟨by kernel_rfl, trivial⟩ ?_
        refine hR _ _ ?_
        exact ⟨congrArg Value.bool (by unfold fewB; first | (simp [fk1, fk2, fk3]; done) | (simp [fk1, fk2, fk3]; omega)), S2.nil⟩
      · skip
        refine J.head (.bool false) (congrArg Value.bool (decide_eq_false fk3)) ?_
        refine J.run 7 K12_9 [(2, .bool false)] w1 (by kernel_rfl) ?_
        refine J.ret Try.f12 [.bool false] Try.func12 ⟨by kernel_rfl, trivial⟩ ?_
        refine hR _ _ ?_
        exact ⟨congrArg Value.bool (by unfold fewB; first | (simp [fk1, fk2, fk3]; done) | (simp [fk1, fk2, fk3]; omega)), S1.nil⟩
    · skip
      refine J.head (.bool false) (congrArg Value.bool (decide_eq_false fk2)) ?_
      refine J.run 13 K12_10 [(2, .bool false)] w1 (by kernel_rfl) ?_
      refine J.ret Try.f12 [.bool false] Try.func12 ⟨by kernel_rfl, trivial⟩ ?_
      refine hR _ _ ?_
      exact ⟨congrArg Value.bool (by unfold fewB; first | (simp [fk1, fk2]; done) | (simp [fk1, fk2]; omega)), S1.nil⟩
  · skip
    refine J.head (.bool false) (congrArg Value.bool (decide_eq_false fk1)) ?_
    refine J.run 19 K12_11 [(2, .bool false)] w1 (by kernel_rfl) ?_
    refine J.ret Try.f12 [.bool false] Try.func12 ⟨by kernel_rfl, trivial⟩ ?_
    refine hR _ _ ?_
    exact ⟨congrArg Value.bool (by unfold fewB; first | (simp [fk1]; done) | (simp [fk1]; omega)), S1.nil⟩

end Go.Proofs.Ytempepmfifljmaa
