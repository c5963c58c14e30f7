/- Walks of functions of this seat, printed by a program over the engine. Conditions: as each theorem says. -/
import Derived.Test.YthfpejhonhaggaaGreatDoorZW1
namespace Go.Proofs.YthfpejhonhaggaaGreatDoor
open Go.Eng Go.RowKit
set_option linter.unusedSimpArgs false
set_option linter.unusedVariables false
structure Rw where
  gS_a : Option Addr
  gS_n : Nat
  gS_c : Nat
  gS_l : List Int
def rwE (x : Rw) : List Value := [.slice x.gS_a x.gS_n x.gS_c]
def rwQ (w : World) (x : Rw) : Prop := (x.gS_n ≤ x.gS_c ∧ x.gS_c ≤ 9223372036854775807) ∧ Ones (Value.int .i64) w x.gS_a x.gS_n x.gS_l ∧ (∀ y ∈ x.gS_l, (fun n => (-9223372036854775808) ≤ n ∧ n ≤ 9223372036854775807) y) ∧ True
theorem rwQ_sep {w0 w : World} {L : List Eng.Claim} {x : Rw} (h : rwQ w0 x) (S : Sep w0 L w) : rwQ w x := by
  obtain ⟨hgS1, hgS2, hgS3, _⟩ := h
  exact ⟨hgS1, hgS2.sep S, hgS3, trivial⟩
structure Mp where
  gX_a : Option Addr
  gX_n : Nat
  gX_c : Nat
  gX_l : List Int
  gY_a : Option Addr
  gY_n : Nat
  gY_c : Nat
  gY_l : List Int
  gZ_a : Option Addr
  gZ_n : Nat
  gZ_c : Nat
  gZ_l : List Rw
def mpE (x : Mp) : List Value := [.slice x.gX_a x.gX_n x.gX_c, .slice x.gY_a x.gY_n x.gY_c, .slice x.gZ_a x.gZ_n x.gZ_c]
def mpQ (w : World) (x : Mp) : Prop := (x.gX_n ≤ x.gX_c ∧ x.gX_c ≤ 9223372036854775807) ∧ Ones (Value.int .i64) w x.gX_a x.gX_n x.gX_l ∧ (∀ y ∈ x.gX_l, (fun n => (-9223372036854775808) ≤ n ∧ n ≤ 9223372036854775807) y) ∧ (x.gY_n ≤ x.gY_c ∧ x.gY_c ≤ 9223372036854775807) ∧ Ones (Value.int .i64) w x.gY_a x.gY_n x.gY_l ∧ (∀ y ∈ x.gY_l, (fun n => (-9223372036854775808) ≤ n ∧ n ≤ 9223372036854775807) y) ∧ (x.gZ_n ≤ x.gZ_c ∧ x.gZ_c ≤ 9223372036854775807) ∧ Recs rwE 1 w x.gZ_a x.gZ_n x.gZ_l ∧ (∀ y ∈ x.gZ_l, (rwQ w) y) ∧ True
theorem mpQ_sep {w0 w : World} {L : List Eng.Claim} {x : Mp} (h : mpQ w0 x) (S : Sep w0 L w) : mpQ w x := by
  obtain ⟨hgX1, hgX2, hgX3, hgY1, hgY2, hgY3, hgZ1, hgZ2, hgZ3, _⟩ := h
  exact ⟨hgX1, hgX2.sep S, hgX3, hgY1, hgY2.sep S, hgY3, hgZ1, hgZ2.sep S, fun y hy => rwQ_sep (hgZ3 y hy) S, trivial⟩
abbrev mpC (x : Mp) : List Value := [.slice x.gX_a x.gX_n x.gX_c, .slice x.gY_a x.gY_n x.gY_c, .slice x.gZ_a x.gZ_n x.gZ_c]
abbrev mpA (x : Mp) : Array Value := #[.slice x.gX_a x.gX_n x.gX_c, .slice x.gY_a x.gY_n x.gY_c, .slice x.gZ_a x.gZ_n x.gZ_c]

def elB (n : Int) : Bool := decide (-1073741824 ≤ n) && decide (n ≤ 1073741824)
theorem elB_iff {n : Int} : elB n = true ↔ -1073741824 ≤ n ∧ n ≤ 1073741824 := by simp [elB]
def nodeB (l : List Int) (i : Nat) : Bool := elB (l.getD i 0) && (i == 0 || decide (l.getD (i - 1) 0 < l.getD i 0))
def axisB (l : List Int) : Bool := decide (2 ≤ l.length) && decide (l.length ≤ 32) && (List.range l.length).all (nodeB l)
theorem all_range_false {n j : Nat} {p : Nat → Bool} (h : j < n) (hp : p j = false) : (List.range n).all p = false := by
  rw [List.all_eq_false]; exact ⟨j, by simpa using h, by simp [hp]⟩
theorem all_range_true {n : Nat} {p : Nat → Bool} (h : ∀ j, j < n → p j = true) : (List.range n).all p = true := by
  rw [List.all_eq_true]; intro j hj; exact h j (by simpa using hj)
theorem all_step {q : Nat → Prop} {i : Int} (h0 : 0 ≤ i) (hq : ∀ k, k < i.toNat → q k) (h : q i.toNat) : ∀ k, k < (i + 1).toNat → q k := by
  intro k hk
  by_cases e : k = i.toNat
  · subst e; exact h
  · exact hq k (by omega)
theorem node_yes {l : List Int} {i : Int} (h0 : 0 ≤ i) (h : elB (l.getD i.toNat 0) = true) (h2 : i = 0 ∨ l.getD (i - 1).toNat 0 < l.getD i.toNat 0) : nodeB l i.toNat = true := by
  unfold nodeB
  rw [h, Bool.true_and, Bool.or_eq_true]
  rcases h2 with h2 | h2
  · left; subst h2; rfl
  · right; rw [show i.toNat - 1 = (i - 1).toNat by omega]; exact decide_eq_true h2
theorem node_no {l : List Int} {i : Int} (h0 : 0 ≤ i) (h : elB (l.getD i.toNat 0) = false ∨ (0 < i ∧ l.getD i.toNat 0 ≤ l.getD (i - 1).toNat 0)) : nodeB l i.toNat = false := by
  unfold nodeB
  rcases h with h | ⟨h1, h2⟩
  · rw [h]; rfl
  · rw [beq_eq_false_iff_ne.2 (show i.toNat ≠ 0 by omega), Bool.false_or, show i.toNat - 1 = (i - 1).toNat by omega, decide_eq_false (by omega), Bool.and_false]
theorem axis_no {l : List Int} (h : l.length < 2 ∨ 32 < l.length) : axisB l = false := by
  unfold axisB
  rcases h with h | h
  · rw [decide_eq_false (by omega)]; rfl
  · rw [decide_eq_false (show ¬ l.length ≤ 32 by omega)]; simp
theorem axis_bad {l : List Int} {i : Int} (h0 : 0 ≤ i) (hi : i < (l.length : Int)) (h : nodeB l i.toNat = false) : axisB l = false := by
  unfold axisB; rw [all_range_false (j := i.toNat) (by omega) h]; simp
theorem axis_yes {l : List Int} (h1 : 2 ≤ l.length) (h2 : l.length ≤ 32) (h : ∀ j, j < l.length → nodeB l j = true) : axisB l = true := by
  unfold axisB; rw [decide_eq_true h1, decide_eq_true h2, all_range_true h]; rfl
theorem axis_facts {l : List Int} (h : axisB l = true) : (2 ≤ l.length ∧ l.length ≤ 32) ∧ (∀ j, j < l.length → -1073741824 ≤ l.getD j 0 ∧ l.getD j 0 ≤ 1073741824) ∧ ∀ j, j + 1 < l.length → l.getD j 0 < l.getD (j + 1) 0 := by
  simp only [axisB, Bool.and_eq_true, decide_eq_true_eq, List.all_eq_true, List.mem_range] at h
  obtain ⟨⟨h1, h2⟩, h3⟩ := h
  refine ⟨⟨h1, h2⟩, fun j hj => ?_, fun j hj => ?_⟩
  · have := h3 j hj
    simp only [nodeB, Bool.and_eq_true] at this
    exact elB_iff.1 this.1
  · have := h3 (j + 1) hj
    simp only [nodeB, Bool.and_eq_true, Bool.or_eq_true, beq_iff_eq, decide_eq_true_eq, Nat.add_sub_cancel] at this
    rcases this.2 with h4 | h4
    · omega
    · exact h4
def rowB (n : Nat) (r : Rw) : Bool := r.gS_n == n && r.gS_l.all elB
def validM (m : Mp) : Bool := axisB m.gX_l && axisB m.gY_l && m.gZ_n == m.gX_n && m.gZ_l.all (rowB m.gY_n)
def rw0 : Rw := ⟨none, 0, 0, []⟩
theorem row_no {n : Nat} {r : Rw} (h : r.gS_n ≠ n ∨ r.gS_l.all elB = false) : rowB n r = false := by
  unfold rowB
  rcases h with h | h
  · rw [beq_eq_false_iff_ne.2 h]; rfl
  · rw [h, Bool.and_false]
theorem row_yes {n : Nat} {r : Rw} (h : r.gS_n = n) (h2 : r.gS_l.all elB = true) : rowB n r = true := by unfold rowB; rw [h, h2]; simp
theorem getD_mem {α : Type} {l : List α} {n : Nat} (d : α) (h : n < l.length) : l.getD n d ∈ l := by
  rw [List.getD_eq_getElem?_getD, List.getElem?_eq_getElem h]; exact List.getElem_mem h
theorem all_getD {α : Type} {l : List α} {q : α → Bool} (d : α) : l.all q = true ↔ ∀ j, j < l.length → q (l.getD j d) = true := by
  rw [List.all_eq_true]
  constructor
  · intro h j hj; exact h _ (getD_mem d hj)
  · intro h x hx
    obtain ⟨j, hj, rfl⟩ := List.mem_iff_getElem.1 hx
    have := h j hj
    simpa [List.getD, hj] using this
theorem all_no {α : Type} {l : List α} {q : α → Bool} (d : α) {j : Nat} (hj : j < l.length) (h : q (l.getD j d) = false) : l.all q = false := by
  rw [List.all_eq_false]; exact ⟨_, getD_mem d hj, by rw [h]; simp⟩
theorem any_not_all {α : Type} (q : α → Bool) (l : List α) : (l.any fun x => !q x) = !l.all q := by rw [← List.not_all_eq_any_not]
theorem valid_no {m : Mp} (h : axisB m.gX_l = false ∨ axisB m.gY_l = false ∨ m.gZ_n ≠ m.gX_n) : validM m = false := by
  unfold validM
  rcases h with h | h | h
  · rw [h]; rfl
  · rw [h]; simp
  · rw [beq_eq_false_iff_ne.2 h]; simp
theorem valid_bad {m : Mp} {i : Int} (h0 : 0 ≤ i) (hi : i < (m.gZ_l.length : Int)) (h : rowB m.gY_n (m.gZ_l.getD i.toNat rw0) = false) : validM m = false := by
  unfold validM; rw [all_no rw0 (by omega) h]; simp
theorem valid_yes {m : Mp} (h1 : axisB m.gX_l = true) (h2 : axisB m.gY_l = true) (h3 : m.gZ_n = m.gX_n) (h : ∀ j, j < m.gZ_l.length → rowB m.gY_n (m.gZ_l.getD j rw0) = true) : validM m = true := by
  unfold validM; rw [h1, h2, h3, (all_getD rw0).2 h]; simp
theorem hb69 : HasBody Tryz.prog 69 := fun _ _ => by kernel_rfl
noncomputable def K69_0 : List Item := adv 9 [] (bodyOf Tryz.f69)
noncomputable def K69_1 : List Item := adv 5 [] K69_0
noncomputable def K69_2 : List Item := adv 5 [] K69_0
set_option maxRecDepth 20000 in
set_option maxHeartbeats 20000000 in
theorem element_any (n : Int) (w : World) : Ret Tryz.prog 69 #[iv n] w (fun v w' => v = .bool (elB n) ∧ Sep w [] w') := by
 have S0 := Sep.refl w
 refine Ret.named fun R hR => ?_
 refine Ret.of_J (N := 9) [(0, iv n)] Tryz.func69 rfl rfl (Nat.le_of_ble_eq_true (by kernel_rfl)) (by kernel_rfl) ?_
 refine J.run 9 K69_0 [(5, .bool (decide (n ≥ (-1073741824)))), (0, iv n)] w (by kernel_rfl) ?_
 by_cases fk1 : n ≥ (-1073741824)
 ·skip
  refine J.head (.bool true) (congrArg Value.bool (decide_eq_true fk1)) ?_
  refine J.run 5 K69_1 [(2, .bool (decide (n ≤ 1073741824)))] w (by kernel_rfl) ?_
  refine J.ret Tryz.f69 [.bool (decide (n ≤ 1073741824))] Tryz.func69 ⟨by kernel_rfl, trivial⟩ ?_
  refine hR _ _ ?_
  exact ⟨congrArg Value.bool (by rw [Bool.eq_iff_iff]; simp [elB]; omega), S0.nil⟩
 ·skip
  refine J.head (.bool false) (congrArg Value.bool (decide_eq_false fk1)) ?_
  refine J.run 5 K69_2 [(2, .bool false)] w (by kernel_rfl) ?_
  refine J.ret Tryz.f69 [.bool false] Tryz.func69 ⟨by kernel_rfl, trivial⟩ ?_
  refine hR _ _ ?_
  exact ⟨congrArg Value.bool (by rw [Bool.eq_iff_iff]; simp [elB]; omega), S0.nil⟩

theorem hb58 : HasBody Tryz.prog 58 := fun _ _ => by kernel_rfl
noncomputable def K58_0 : List Item := adv 9 [] (bodyOf Tryz.f58)
noncomputable def K58_1 : List Item := adv 5 [] K58_0
noncomputable def K58_2 : List Item := adv 5 [] K58_0
set_option maxRecDepth 20000 in
set_option maxHeartbeats 20000000 in
theorem far_any (n : Int) (w : World) : Ret Tryz.prog 58 #[iv n] w (fun v w' => v = .bool (!elB n) ∧ Sep w [] w') := by
 have S0 := Sep.refl w
 refine Ret.named fun R hR => ?_
 refine Ret.of_J (N := 9) [(0, iv n)] Tryz.func58 rfl rfl (Nat.le_of_ble_eq_true (by kernel_rfl)) (by kernel_rfl) ?_
 refine J.run 9 K58_0 [(5, .bool (decide (n < (-1073741824)))), (0, iv n)] w (by kernel_rfl) ?_
 by_cases fk1 : n < (-1073741824)
 ·skip
  refine J.head (.bool true) (congrArg Value.bool (decide_eq_true fk1)) ?_
  refine J.run 5 K58_1 [(2, .bool true)] w (by kernel_rfl) ?_
  refine J.ret Tryz.f58 [.bool true] Tryz.func58 ⟨by kernel_rfl, trivial⟩ ?_
  refine hR _ _ ?_
  exact ⟨congrArg Value.bool (by rw [Bool.eq_iff_iff]; simp [elB]; omega), S0.nil⟩
 ·skip
  refine J.head (.bool false) (congrArg Value.bool (decide_eq_false fk1)) ?_
  refine J.run 5 K58_2 [(2, .bool (decide (n > 1073741824)))] w (by kernel_rfl) ?_
  refine J.ret Tryz.f58 [.bool (decide (n > 1073741824))] Tryz.func58 ⟨by kernel_rfl, trivial⟩ ?_
  refine hR _ _ ?_
  exact ⟨congrArg Value.bool (by rw [Bool.eq_iff_iff]; simp [elB]; omega), S0.nil⟩

theorem hb67 : HasBody Tryz.prog 67 := fun _ _ => by kernel_rfl
noncomputable def K67_0 : List Item := adv 11 [] (bodyOf Tryz.f67)
noncomputable def K67_1 : List Item := adv 10 [true] K67_0
noncomputable def K67_2 : List Item := adv 5 [] K67_0
noncomputable def K67_3 : List Item := adv 5 [true] K67_2
noncomputable def K67_4 : List Item := adv 11 [false] K67_2
noncomputable def K67_5 : List Item := adv 5 [] K67_4
noncomputable def K67_6 : List Item := adv 7 [true] K67_5
noncomputable def K67_7 : List Item := adv 6 [] (popK (popK K67_6))
noncomputable def K67_8 : List Item := adv 2 [] (popK K67_7)
noncomputable def K67_9 : List Item := adv 3 [] K67_8
noncomputable def K67_10 : List Item := adv 4 [] K67_9
noncomputable def K67_11 : List Item := adv 4 [] (popK (popK K67_10))
noncomputable def K67_12 : List Item := adv 5 [true] K67_11
noncomputable def K67_13 : List Item := adv 5 [false] K67_11
noncomputable def K67_14 : List Item := adv 15 [false] K67_9
noncomputable def K67_15 : List Item := adv 18 [true] K67_8
noncomputable def K67_16 : List Item := adv 6 [false] K67_5
set_option maxRecDepth 20000 in
set_option maxHeartbeats 20000000 in
theorem axis_any (la : Option Addr) (len cap : Nat) (l : List Int) (w : World) (hI : Ints w la len l) (hlen : len ≤ 9223372036854775807) : Ret Tryz.prog 67 #[.slice la len cap] w (fun v w' => v = .bool (axisB l) ∧ Sep w [] w') := by
 have S0 := Sep.refl w
 refine Ret.named fun R hR => ?_
 refine Ret.of_J (N := 37) [(0, .slice la len cap)] Tryz.func67 rfl rfl (Nat.le_of_ble_eq_true (by kernel_rfl)) (by kernel_rfl) ?_
 have hll := hI.len_eq
 refine J.run 11 K67_0 [(8, .bool (decide ((len : Int) < 2))), (0, .slice la len cap)] w (by kernel_rfl) ?_
 by_cases fk1 : (len : Int) < 2
 ·skip
  refine J.head (.bool true) (congrArg Value.bool (decide_eq_true fk1)) ?_
  refine J.run 10 K67_1 [(2, .bool false)] w (by kernel_rfl) ?_
  refine J.ret Tryz.f67 [.bool false] Tryz.func67 ⟨by kernel_rfl, trivial⟩ ?_
  refine hR _ _ ?_
  exact ⟨congrArg Value.bool (axis_no (by omega)).symm, S0.nil⟩
 ·skip
  refine J.head (.bool false) (congrArg Value.bool (decide_eq_false fk1)) ?_
  refine J.run 5 K67_2 [(12, .bool (decide ((len : Int) > 32))), (0, .slice la len cap)] w (by kernel_rfl) ?_
  by_cases fk2 : (len : Int) > 32
  ·skip
   refine J.head (.bool true) (congrArg Value.bool (decide_eq_true fk2)) ?_
   refine J.run 5 K67_3 [(2, .bool false)] w (by kernel_rfl) ?_
   refine J.ret Tryz.f67 [.bool false] Tryz.func67 ⟨by kernel_rfl, trivial⟩ ?_
   refine hR _ _ ?_
   exact ⟨congrArg Value.bool (axis_no (by omega)).symm, S0.nil⟩
  ·skip
   refine J.head (.bool false) (congrArg Value.bool (decide_eq_false fk2)) ?_
   refine J.run 11 K67_4 [(15, iv 0), (14, iv (len : Int)), (13, .slice la len cap), (0, .slice la len cap)] w (by kernel_rfl) ?_
   have L67_1 : ∀ (mm_ : Nat) (i : Int) (w1 : World), (0 ≤ i) → (i ≤ (len : Int)) → (∀ j, j < (i).toNat → nodeB l j = true) → Sep w [] w1 → ((len : Int) - i).toNat = mm_ → J Tryz.prog 67 37 R K67_4 [(15, iv i), (14, iv (len : Int)), (13, .slice la len cap), (0, .slice la len cap)] w1 := by
    intro mm1
    induction mm1 using Nat.strongRecOn with
    | _ mm1 ih1 =>
    intro i w1 h0 h1 hq S1 hm1
    refine J.run 5 K67_5 [(16, .bool (decide (i < (len : Int)))), (15, iv i), (14, iv (len : Int)), (13, .slice la len cap), (0, .slice la len cap)] w1 (by kernel_rfl) ?_
    by_cases fk3 : i < (len : Int)
    ·skip
     refine J.head (.bool true) (congrArg Value.bool (decide_eq_true fk3)) ?_
     refine J.run 7 K67_6 [(17, iv i), (15, iv i), (14, iv (len : Int)), (13, .slice la len cap), (0, .slice la len cap)] w1 (by kernel_rfl) ?_
     obtain ⟨p1, hp1, hc1⟩ := hI.at 0 (i).toNat (by omega)
     refine J.ok (OK.index 18 26 1 la p1 len (i).toNat i (p1.add (i).toNat) (by kernel_rfl) (by kernel_rfl) hp1 (by omega) (by omega) (by rw [Nat.mul_one])) ?_
     refine J.ok (OK.ldCell 19 3 (p1.add (i).toNat) (iv (l.getD (i).toNat 0)) (by kernel_rfl) (by kernel_rfl) (S1.cell hc1)) ?_
     refine J.run 6 K67_7 [(20, iv (l.getD (i).toNat 0)), (4, iv (l.getD (i).toNat 0)), (3, iv i), (15, iv i), (14, iv (len : Int)), (13, .slice la len cap), (0, .slice la len cap)] w1 (by kernel_rfl) ?_
     refine J.callF 21 69 #[iv (l.getD (i).toNat 0)] hb69 (by kernel_rfl) (element_any (l.getD (i).toNat 0) _) ?_
     rintro _ w2 ⟨rfl, T1⟩
     have S2 : Sep w [] w2 := S1.trans T1
     clear T1 S1
     refine J.run 2 K67_8 [(23, .bool (!(elB (l.getD (i).toNat 0)))), (4, iv (l.getD (i).toNat 0)), (3, iv i), (15, iv i), (14, iv (len : Int)), (13, .slice la len cap), (0, .slice la len cap)] w2 (by kernel_rfl) ?_
     rcases Bool.eq_false_or_eq_true (elB (l.getD (i).toNat 0)) with fk4 | fk4
     ·skip
      refine J.head (.bool false) (congrArg Value.bool (by rw [fk4]; rfl)) ?_
      refine J.run 3 K67_9 [(26, .bool (decide (i > 0))), (23, .bool false), (4, iv (l.getD (i).toNat 0)), (3, iv i), (15, iv i), (14, iv (len : Int)), (13, .slice la len cap), (0, .slice la len cap)] w2 (by kernel_rfl) ?_
      by_cases fk5 : i > 0
      ·skip
       refine J.head (.bool true) (congrArg Value.bool (decide_eq_true fk5)) ?_
       refine J.run 4 K67_10 [(30, iv (IntKind.wrap .i64 (i - 1))), (28, .slice la len cap), (27, iv (l.getD (i).toNat 0)), (26, .bool true), (23, .bool false), (15, iv i), (14, iv (len : Int)), (13, .slice la len cap), (0, .slice la len cap)] w2 (by kernel_rfl) ?_
       refine J.head (iv (i - 1)) (congrArg (Value.int .i64) (IntWalk.i64_in _ (by omega))) ?_
       obtain ⟨p2, hp2, hc2⟩ := hI.at 0 (i - 1).toNat (by omega)
       refine J.ok (OK.index 31 26 1 la p2 len (i - 1).toNat (i - 1) (p2.add (i - 1).toNat) (by kernel_rfl) (by kernel_rfl) hp2 (by omega) (by omega) (by rw [Nat.mul_one])) ?_
       refine J.ok (OK.ldCell 32 3 (p2.add (i - 1).toNat) (iv (l.getD (i - 1).toNat 0)) (by kernel_rfl) (by kernel_rfl) (S2.cell hc2)) ?_
       refine J.run 4 K67_11 [(35, .bool (decide ((l.getD (i).toNat 0) ≤ (l.getD (i - 1).toNat 0)))), (15, iv i), (14, iv (len : Int)), (13, .slice la len cap), (0, .slice la len cap)] w2 (by kernel_rfl) ?_
       by_cases fk6 : (l.getD (i).toNat 0) ≤ (l.getD (i - 1).toNat 0)
       ·skip
        refine J.head (.bool true) (congrArg Value.bool (decide_eq_true fk6)) ?_
        refine J.run 5 K67_12 [(2, .bool false)] w2 (by kernel_rfl) ?_
        refine J.ret Tryz.f67 [.bool false] Tryz.func67 ⟨by kernel_rfl, trivial⟩ ?_
        refine hR _ _ ?_
        exact ⟨congrArg Value.bool (axis_bad h0 (by omega) (node_no h0 (by first | exact .inl fk4 | exact .inr ⟨by omega, by omega⟩))).symm, S2.nil⟩
       ·skip
        refine J.head (.bool false) (congrArg Value.bool (decide_eq_false fk6)) ?_
        refine J.run 5 K67_13 [(36, iv (IntKind.wrap .i64 (i + 1))), (14, iv (len : Int)), (13, .slice la len cap), (0, .slice la len cap)] w2 (by kernel_rfl) ?_
        refine J.head (iv (i + 1)) (congrArg (Value.int .i64) (IntWalk.i64_in _ (by omega))) ?_
        refine J.run 3 K67_4 [(15, iv (i + 1)), (14, iv (len : Int)), (13, .slice la len cap), (0, .slice la len cap)] w2 (by kernel_rfl) ?_
        refine J.run 0 K67_4 [(15, iv (i + 1)), (14, iv (len : Int)), (13, .slice la len cap), (0, .slice la len cap)] w2 (by kernel_rfl) ?_
        exact ih1 _ (show ((len : Int) - (i + 1)).toNat < mm1 from by omega) (i + 1) w2 (by omega) (by omega) (all_step h0 hq (node_yes h0 fk4 (by omega))) S2 rfl
      ·skip
       refine J.head (.bool false) (congrArg Value.bool (decide_eq_false fk5)) ?_
       refine J.run 15 K67_14 [(36, iv (IntKind.wrap .i64 (i + 1))), (14, iv (len : Int)), (13, .slice la len cap), (0, .slice la len cap)] w2 (by kernel_rfl) ?_
       refine J.head (iv (i + 1)) (congrArg (Value.int .i64) (IntWalk.i64_in _ (by omega))) ?_
       refine J.run 3 K67_4 [(15, iv (i + 1)), (14, iv (len : Int)), (13, .slice la len cap), (0, .slice la len cap)] w2 (by kernel_rfl) ?_
       refine J.run 0 K67_4 [(15, iv (i + 1)), (14, iv (len : Int)), (13, .slice la len cap), (0, .slice la len cap)] w2 (by kernel_rfl) ?_
       exact ih1 _ (show ((len : Int) - (i + 1)).toNat < mm1 from by omega) (i + 1) w2 (by omega) (by omega) (all_step h0 hq (node_yes h0 fk4 (by omega))) S2 rfl
     ·skip
      refine J.head (.bool true) (congrArg Value.bool (by rw [fk4]; rfl)) ?_
      refine J.run 18 K67_15 [(2, .bool false)] w2 (by kernel_rfl) ?_
      refine J.ret Tryz.f67 [.bool false] Tryz.func67 ⟨by kernel_rfl, trivial⟩ ?_
      refine hR _ _ ?_
      exact ⟨congrArg Value.bool (axis_bad h0 (by omega) (node_no h0 (by first | exact .inl fk4 | exact .inr ⟨by omega, by omega⟩))).symm, S2.nil⟩
    ·skip
     refine J.head (.bool false) (congrArg Value.bool (decide_eq_false fk3)) ?_
     refine J.run 6 K67_16 [(2, .bool true)] w1 (by kernel_rfl) ?_
     refine J.ret Tryz.f67 [.bool true] Tryz.func67 ⟨by kernel_rfl, trivial⟩ ?_
     refine hR _ _ ?_
     exact ⟨congrArg Value.bool (axis_yes (by omega) (by omega) fun j hj => hq j (by omega)).symm, S1.nil⟩
   exact L67_1 _ 0 w (by omega) (by omega) (by intro j hj; simp at hj) S0 rfl

theorem hb57 : HasBody Tryz.prog 57 := fun _ _ => by kernel_rfl
noncomputable def K57_0 : List Item := adv 11 [] (bodyOf Tryz.f57)
noncomputable def K57_1 : List Item := adv 10 [true] K57_0
noncomputable def K57_2 : List Item := adv 5 [] K57_0
noncomputable def K57_3 : List Item := adv 5 [true] K57_2
noncomputable def K57_4 : List Item := adv 9 [false] K57_2
noncomputable def K57_5 : List Item := adv 8 [] K57_4
noncomputable def K57_6 : List Item := adv 5 [true] K57_5
noncomputable def K57_7 : List Item := adv 5 [true] (rRest K57_6)
noncomputable def K57_8 : List Item := adv 6 [false] (rRest K57_6)
noncomputable def K57_9 : List Item := adv 6 [false] (rRest K57_6)
noncomputable def K57_10 : List Item := adv 5 [true] (rRest K57_6)
noncomputable def K57_11 : List Item := adv 6 [false] K57_5
set_option maxRecDepth 20000 in
set_option maxHeartbeats 20000000 in
theorem raxis_any (la : Option Addr) (len cap : Nat) (l : List Int) (w : World) (hI : Ints w la len l) (hlen : len ≤ 9223372036854775807) : Ret Tryz.prog 57 #[.slice la len cap] w (fun v w' => v = .bool (axisB l) ∧ Sep w [] w') := by
 have S0 := Sep.refl w
 refine Ret.named fun R hR => ?_
 refine Ret.of_J (N := 39) [(0, .slice la len cap)] Tryz.func57 rfl rfl (Nat.le_of_ble_eq_true (by kernel_rfl)) (by kernel_rfl) ?_
 have hll := hI.len_eq
 refine J.run 11 K57_0 [(7, .bool (decide ((len : Int) < 2))), (0, .slice la len cap)] w (by kernel_rfl) ?_
 by_cases fk1 : (len : Int) < 2
 ·skip
  refine J.head (.bool true) (congrArg Value.bool (decide_eq_true fk1)) ?_
  refine J.run 10 K57_1 [(2, .bool false)] w (by kernel_rfl) ?_
  refine J.ret Tryz.f57 [.bool false] Tryz.func57 ⟨by kernel_rfl, trivial⟩ ?_
  refine hR _ _ ?_
  exact ⟨congrArg Value.bool (axis_no (by omega)).symm, S0.nil⟩
 ·skip
  refine J.head (.bool false) (congrArg Value.bool (decide_eq_false fk1)) ?_
  refine J.run 5 K57_2 [(11, .bool (decide ((len : Int) > 32))), (0, .slice la len cap)] w (by kernel_rfl) ?_
  by_cases fk2 : (len : Int) > 32
  ·skip
   refine J.head (.bool true) (congrArg Value.bool (decide_eq_true fk2)) ?_
   refine J.run 5 K57_3 [(2, .bool false)] w (by kernel_rfl) ?_
   refine J.ret Tryz.f57 [.bool false] Tryz.func57 ⟨by kernel_rfl, trivial⟩ ?_
   refine hR _ _ ?_
   exact ⟨congrArg Value.bool (axis_no (by omega)).symm, S0.nil⟩
  ·skip
   refine J.head (.bool false) (congrArg Value.bool (decide_eq_false fk2)) ?_
   refine J.run 9 K57_4 [(3, iv 0), (0, .slice la len cap)] w (by kernel_rfl) ?_
   have L57_1 : ∀ (mm_ : Nat) (i : Int) (w1 : World), (0 ≤ i) → (i ≤ (len : Int)) → (∀ j, j < (i).toNat → nodeB l j = true) → Sep w [] w1 → ((len : Int) - i).toNat = mm_ → J Tryz.prog 57 39 R K57_4 [(3, iv i), (0, .slice la len cap)] w1 := by
    intro mm1
    induction mm1 using Nat.strongRecOn with
    | _ mm1 ih1 =>
    intro i w1 h0 h1 hq S1 hm1
    refine J.run 8 K57_5 [(15, .bool (decide (i < (len : Int)))), (3, iv i), (0, .slice la len cap)] w1 (by kernel_rfl) ?_
    by_cases fk3 : i < (len : Int)
    ·skip
     refine J.head (.bool true) (congrArg Value.bool (decide_eq_true fk3)) ?_
     refine J.run 5 K57_6 [(3, iv i), (0, .slice la len cap)] w1 (by kernel_rfl) ?_
     rcases Bool.eq_false_or_eq_true (elB (l.getD (i).toNat 0)) with fk4 | fk4
     ·skip
      by_cases fk5 : i > 0
      ·skip
       obtain ⟨p1, hp1, hc1⟩ := hI.at 0 (i).toNat (by omega)
       obtain ⟨p2, hp2, hc2⟩ := hI.at 0 (i - 1).toNat (by omega)
       refine J.drawPlan (fun w_ => Sep w [] w_) [(0, true), (1, true), (2, true), (3, true), (4, false), (5, true), (6, true), (7, true), (8, true), (9, true), (10, true), (11, true), (12, true), (13, true), (14, true), (15, true), (16, true), (17, true), (18, true), (19, true), (20, true)] S1 Tryz.mixed (by kernel_rfl) (planOK_of (T := [(0, some 18, 1), (0, some 19, 8), (3, some 20, 786432), (4, some 21, 1048576), (8, some 22, 2097152), (16, some 23, 4194304), (32, some 24, 8388616), (96, some 25, 25165824), (160, some 26, 41943040), (256, some 27, 67108865), (256, some 28, 67108872), (1792, some 29, 469762048), (2304, some 30, 603979776), (256, some 31, 67108865), (256, some 32, 67108872), (16640, some 33, 4362076160), (41216, some 34, 10804527104), (65792, some 35, 17246978048), (135424, some 36, 35500589056), (262432, some 37, 68794974208), (524320, some 38, 137447342080)]) (by kernel_rfl) (by kernel_rfl)) ?_
       intro w2 S2
       refine PB.mk S2 ?_
       refine PL.take 0 18 (.slice la len cap) (fun _ _ => by kernel_rfl) ?_
       refine PL.take 1 19 (iv i) (fun _ _ => by kernel_rfl) ?_
       refine PL.takeOK 2 (fun w_ S_ => OK.index 20 26 1 la p1 len (i).toNat i (p1.add (i).toNat) (by kernel_rfl) (by kernel_rfl) hp1 (by omega) (by omega) (by rw [Nat.mul_one])) rfl ?_
       refine PL.takeOK 3 (fun w_ S_ => OK.ldCell 21 3 (p1.add (i).toNat) (iv (l.getD (i).toNat 0)) (by kernel_rfl) (by kernel_rfl) (S_.cell hc1)) rfl ?_
       refine PL.callF 22 58 #[iv (l.getD (i).toNat 0)] hb58 (by kernel_rfl) (far_any (l.getD (i).toNat 0) _) ?_
       rintro _ w3 ⟨rfl, T1⟩
       have S3 : Sep w [] w3 := S2.trans T1
       clear T1 S2
       refine PB.mk S3 ?_
       refine PL.take 5 23 (.bool (!(elB (l.getD (i).toNat 0)))) (fun _ _ => by kernel_rfl) ?_
       refine PL.head (.bool false) (congrArg Value.bool (by rw [fk4]; rfl)) ?_
       refine PL.take 6 24 (iv i) (fun _ _ => by kernel_rfl) ?_
       refine PL.take 7 25 (.bool (decide (i > 0))) (fun _ _ => by kernel_rfl) ?_
       refine PL.head (.bool true) (congrArg Value.bool (decide_eq_true fk5)) ?_
       refine PL.take 8 26 (.bool true) (fun _ _ => by kernel_rfl) ?_
       refine PL.take 9 27 (.slice la len cap) (fun _ _ => by kernel_rfl) ?_
       refine PL.take 10 28 (iv i) (fun _ _ => by kernel_rfl) ?_
       refine PL.takeOK 11 (fun w_ S_ => OK.index 29 26 1 la p1 len (i).toNat i (p1.add (i).toNat) (by kernel_rfl) (by kernel_rfl) hp1 (by omega) (by omega) (by rw [Nat.mul_one])) rfl ?_
       refine PL.takeOK 12 (fun w_ S_ => OK.ldCell 30 3 (p1.add (i).toNat) (iv (l.getD (i).toNat 0)) (by kernel_rfl) (by kernel_rfl) (S_.cell hc1)) rfl ?_
       refine PL.take 13 31 (.slice la len cap) (fun _ _ => by kernel_rfl) ?_
       refine PL.take 14 32 (iv i) (fun _ _ => by kernel_rfl) ?_
       refine PL.take 15 33 (iv (IntKind.wrap .i64 (i - 1))) (fun _ _ => by kernel_rfl) ?_
       refine PL.head (iv (i - 1)) (congrArg (Value.int .i64) (IntWalk.i64_in _ (by omega))) ?_
       refine PL.takeOK 16 (fun w_ S_ => OK.index 34 26 1 la p2 len (i - 1).toNat (i - 1) (p2.add (i - 1).toNat) (by kernel_rfl) (by kernel_rfl) hp2 (by omega) (by omega) (by rw [Nat.mul_one])) rfl ?_
       refine PL.takeOK 17 (fun w_ S_ => OK.ldCell 35 3 (p2.add (i - 1).toNat) (iv (l.getD (i - 1).toNat 0)) (by kernel_rfl) (by kernel_rfl) (S_.cell hc2)) rfl ?_
       refine PL.take 18 36 (.bool (decide ((l.getD (i).toNat 0) ≤ (l.getD (i - 1).toNat 0)))) (fun _ _ => by kernel_rfl) ?_
       refine PL.take 19 37 (.bool (decide ((l.getD (i).toNat 0) ≤ (l.getD (i - 1).toNat 0)))) (fun _ _ => by kernel_rfl) ?_
       refine PL.take 20 38 (.bool (decide ((l.getD (i).toNat 0) ≤ (l.getD (i - 1).toNat 0)))) (fun _ _ => by kernel_rfl) ?_
       refine PL.done ?_
       refine J.run 0 (rRest K57_6) [(38, .bool (decide ((l.getD (i).toNat 0) ≤ (l.getD (i - 1).toNat 0)))), (3, iv i), (0, .slice la len cap)] w3 (by kernel_rfl) ?_
       by_cases fk6 : (l.getD (i).toNat 0) ≤ (l.getD (i - 1).toNat 0)
       ·skip
        refine J.head (.bool true) (congrArg Value.bool (decide_eq_true fk6)) ?_
        refine J.run 5 K57_7 [(2, .bool false)] w3 (by kernel_rfl) ?_
        refine J.ret Tryz.f57 [.bool false] Tryz.func57 ⟨by kernel_rfl, trivial⟩ ?_
        refine hR _ _ ?_
        exact ⟨congrArg Value.bool (axis_bad h0 (by omega) (node_no h0 (by first | exact .inl fk4 | exact .inr ⟨by omega, by omega⟩))).symm, S3.nil⟩
       ·skip
        refine J.head (.bool false) (congrArg Value.bool (decide_eq_false fk6)) ?_
        refine J.run 6 K57_8 [(17, iv (IntKind.wrap .i64 (i + 1))), (0, .slice la len cap)] w3 (by kernel_rfl) ?_
        refine J.head (iv (i + 1)) (congrArg (Value.int .i64) (IntWalk.i64_in _ (by omega))) ?_
        refine J.run 3 K57_4 [(3, iv (i + 1)), (0, .slice la len cap)] w3 (by kernel_rfl) ?_
        refine J.run 0 K57_4 [(3, iv (i + 1)), (0, .slice la len cap)] w3 (by kernel_rfl) ?_
        exact ih1 _ (show ((len : Int) - (i + 1)).toNat < mm1 from by omega) (i + 1) w3 (by omega) (by omega) (all_step h0 hq (node_yes h0 fk4 (by omega))) S3 rfl
      ·skip
       obtain ⟨p3, hp3, hc3⟩ := hI.at 0 (i).toNat (by omega)
       refine J.drawPlan (fun w_ => Sep w [] w_) [(0, true), (1, true), (2, true), (3, true), (4, false), (5, true), (6, true), (7, true), (8, true), (9, true), (10, true), (11, true), (12, true), (13, true), (14, true), (15, true), (16, true), (17, true), (18, true), (19, true), (20, true)] S1 Tryz.mixed (by kernel_rfl) (planOK_of (T := [(0, some 18, 1), (0, some 19, 8), (3, some 20, 786432), (4, some 21, 1048576), (8, some 22, 2097152), (16, some 23, 4194304), (32, some 24, 8388616), (96, some 25, 25165824), (160, some 26, 41943040), (256, some 27, 67108865), (256, some 28, 67108872), (1792, some 29, 469762048), (2304, some 30, 603979776), (256, some 31, 67108865), (256, some 32, 67108872), (16640, some 33, 4362076160), (41216, some 34, 10804527104), (65792, some 35, 17246978048), (135424, some 36, 35500589056), (262432, some 37, 68794974208), (524320, some 38, 137447342080)]) (by kernel_rfl) (by kernel_rfl)) ?_
       intro w4 S4
       refine PB.mk S4 ?_
       refine PL.take 0 18 (.slice la len cap) (fun _ _ => by kernel_rfl) ?_
       refine PL.take 1 19 (iv i) (fun _ _ => by kernel_rfl) ?_
       refine PL.takeOK 2 (fun w_ S_ => OK.index 20 26 1 la p3 len (i).toNat i (p3.add (i).toNat) (by kernel_rfl) (by kernel_rfl) hp3 (by omega) (by omega) (by rw [Nat.mul_one])) rfl ?_
       refine PL.takeOK 3 (fun w_ S_ => OK.ldCell 21 3 (p3.add (i).toNat) (iv (l.getD (i).toNat 0)) (by kernel_rfl) (by kernel_rfl) (S_.cell hc3)) rfl ?_
       refine PL.callF 22 58 #[iv (l.getD (i).toNat 0)] hb58 (by kernel_rfl) (far_any (l.getD (i).toNat 0) _) ?_
       rintro _ w5 ⟨rfl, T2⟩
       have S5 : Sep w [] w5 := S4.trans T2
       clear T2 S4
       refine PB.mk S5 ?_
       refine PL.take 5 23 (.bool (!(elB (l.getD (i).toNat 0)))) (fun _ _ => by kernel_rfl) ?_
       refine PL.head (.bool false) (congrArg Value.bool (by rw [fk4]; rfl)) ?_
       refine PL.take 6 24 (iv i) (fun _ _ => by kernel_rfl) ?_
       refine PL.take 7 25 (.bool (decide (i > 0))) (fun _ _ => by kernel_rfl) ?_
       refine PL.head (.bool false) (congrArg Value.bool (decide_eq_false fk5)) ?_
       refine PL.take 8 26 (.bool false) (fun _ _ => by kernel_rfl) ?_
       refine PL.takePass 9 (some 27) (by kernel_rfl) ?_
       refine PL.takePass 10 (some 28) (by kernel_rfl) ?_
       refine PL.takePass 11 (some 29) (by kernel_rfl) ?_
       refine PL.takePass 12 (some 30) (by kernel_rfl) ?_
       refine PL.takePass 13 (some 31) (by kernel_rfl) ?_
       refine PL.takePass 14 (some 32) (by kernel_rfl) ?_
       refine PL.takePass 15 (some 33) (by kernel_rfl) ?_
       refine PL.takePass 16 (some 34) (by kernel_rfl) ?_
       refine PL.takePass 17 (some 35) (by kernel_rfl) ?_
       refine PL.takePass 18 (some 36) (by kernel_rfl) ?_
       refine PL.take 19 37 (.bool false) (fun _ _ => by kernel_rfl) ?_
       refine PL.take 20 38 (.bool false) (fun _ _ => by kernel_rfl) ?_
       refine PL.done ?_
       refine J.run 0 (rRest K57_6) [(38, .bool false), (3, iv i), (0, .slice la len cap)] w5 (by kernel_rfl) ?_
       refine J.run 6 K57_9 [(17, iv (IntKind.wrap .i64 (i + 1))), (0, .slice la len cap)] w5 (by kernel_rfl) ?_
       refine J.head (iv (i + 1)) (congrArg (Value.int .i64) (IntWalk.i64_in _ (by omega))) ?_
       refine J.run 3 K57_4 [(3, iv (i + 1)), (0, .slice la len cap)] w5 (by kernel_rfl) ?_
       refine J.run 0 K57_4 [(3, iv (i + 1)), (0, .slice la len cap)] w5 (by kernel_rfl) ?_
       exact ih1 _ (show ((len : Int) - (i + 1)).toNat < mm1 from by omega) (i + 1) w5 (by omega) (by omega) (all_step h0 hq (node_yes h0 fk4 (by omega))) S5 rfl
     ·skip
      obtain ⟨p4, hp4, hc4⟩ := hI.at 0 (i).toNat (by omega)
      refine J.drawPlan (fun w_ => Sep w [] w_) [(0, true), (1, true), (2, true), (3, true), (4, false), (5, true), (6, true), (7, true), (8, true), (9, true), (10, true), (11, true), (12, true), (13, true), (14, true), (15, true), (16, true), (17, true), (18, true), (19, true), (20, true)] S1 Tryz.mixed (by kernel_rfl) (planOK_of (T := [(0, some 18, 1), (0, some 19, 8), (3, some 20, 786432), (4, some 21, 1048576), (8, some 22, 2097152), (16, some 23, 4194304), (32, some 24, 8388616), (96, some 25, 25165824), (160, some 26, 41943040), (256, some 27, 67108865), (256, some 28, 67108872), (1792, some 29, 469762048), (2304, some 30, 603979776), (256, some 31, 67108865), (256, some 32, 67108872), (16640, some 33, 4362076160), (41216, some 34, 10804527104), (65792, some 35, 17246978048), (135424, some 36, 35500589056), (262432, some 37, 68794974208), (524320, some 38, 137447342080)]) (by kernel_rfl) (by kernel_rfl)) ?_
      intro w6 S6
      refine PB.mk S6 ?_
      refine PL.take 0 18 (.slice la len cap) (fun _ _ => by kernel_rfl) ?_
      refine PL.take 1 19 (iv i) (fun _ _ => by kernel_rfl) ?_
      refine PL.takeOK 2 (fun w_ S_ => OK.index 20 26 1 la p4 len (i).toNat i (p4.add (i).toNat) (by kernel_rfl) (by kernel_rfl) hp4 (by omega) (by omega) (by rw [Nat.mul_one])) rfl ?_
      refine PL.takeOK 3 (fun w_ S_ => OK.ldCell 21 3 (p4.add (i).toNat) (iv (l.getD (i).toNat 0)) (by kernel_rfl) (by kernel_rfl) (S_.cell hc4)) rfl ?_
      refine PL.callF 22 58 #[iv (l.getD (i).toNat 0)] hb58 (by kernel_rfl) (far_any (l.getD (i).toNat 0) _) ?_
      rintro _ w7 ⟨rfl, T3⟩
      have S7 : Sep w [] w7 := S6.trans T3
      clear T3 S6
      refine PB.mk S7 ?_
      refine PL.take 5 23 (.bool (!(elB (l.getD (i).toNat 0)))) (fun _ _ => by kernel_rfl) ?_
      refine PL.head (.bool true) (congrArg Value.bool (by rw [fk4]; rfl)) ?_
      refine PL.takePass 6 (some 24) (by kernel_rfl) ?_
      refine PL.takePass 7 (some 25) (by kernel_rfl) ?_
      refine PL.takePass 8 (some 26) (by kernel_rfl) ?_
      refine PL.takePass 9 (some 27) (by kernel_rfl) ?_
      refine PL.takePass 10 (some 28) (by kernel_rfl) ?_
      refine PL.takePass 11 (some 29) (by kernel_rfl) ?_
      refine PL.takePass 12 (some 30) (by kernel_rfl) ?_
      refine PL.takePass 13 (some 31) (by kernel_rfl) ?_
      refine PL.takePass 14 (some 32) (by kernel_rfl) ?_
      refine PL.takePass 15 (some 33) (by kernel_rfl) ?_
      refine PL.takePass 16 (some 34) (by kernel_rfl) ?_
      refine PL.takePass 17 (some 35) (by kernel_rfl) ?_
      refine PL.takePass 18 (some 36) (by kernel_rfl) ?_
      refine PL.takePass 19 (some 37) (by kernel_rfl) ?_
      refine PL.take 20 38 (.bool true) (fun _ _ => by kernel_rfl) ?_
      refine PL.done ?_
      refine J.run 0 (rRest K57_6) [(38, .bool true), (3, iv i), (0, .slice la len cap)] w7 (by kernel_rfl) ?_
      refine J.run 5 K57_10 [(2, .bool false)] w7 (by kernel_rfl) ?_
      refine J.ret Tryz.f57 [.bool false] Tryz.func57 ⟨by kernel_rfl, trivial⟩ ?_
      refine hR _ _ ?_
      exact ⟨congrArg Value.bool (axis_bad h0 (by omega) (node_no h0 (by first | exact .inl fk4 | exact .inr ⟨by omega, by omega⟩))).symm, S7.nil⟩
    ·skip
     refine J.head (.bool false) (congrArg Value.bool (decide_eq_false fk3)) ?_
     refine J.run 6 K57_11 [(2, .bool true)] w1 (by kernel_rfl) ?_
     refine J.ret Tryz.f57 [.bool true] Tryz.func57 ⟨by kernel_rfl, trivial⟩ ?_
     refine hR _ _ ?_
     exact ⟨congrArg Value.bool (axis_yes (by omega) (by omega) fun j hj => hq j (by omega)).symm, S1.nil⟩
   exact L57_1 _ 0 w (by omega) (by omega) (by intro j hj; simp at hj) S0 rfl

theorem hb68 : HasBody Tryz.prog 68 := fun _ _ => by kernel_rfl
noncomputable def K68_0 : List Item := adv 7 [] (bodyOf Tryz.f68)
noncomputable def K68_1 : List Item := adv 3 [] (popK K68_0)
set_option maxRecDepth 20000 in
set_option maxHeartbeats 20000000 in
theorem farz_any (n : Int) (w : World) : Ret Tryz.prog 68 #[iv n] w (fun v w' => v = .bool (!elB n) ∧ Sep w [] w') := by
 have S0 := Sep.refl w
 refine Ret.named fun R hR => ?_
 refine Ret.of_J (N := 6) [(0, iv n)] Tryz.func68 rfl rfl (Nat.le_of_ble_eq_true (by kernel_rfl)) (by kernel_rfl) ?_
 refine J.run 7 K68_0 [(3, iv n)] w (by kernel_rfl) ?_
 refine J.callF 4 69 #[iv n] hb69 (by kernel_rfl) (element_any n _) ?_
 rintro _ w1 ⟨rfl, T1⟩
 have S1 : Sep w [] w1 := S0.trans T1
 clear T1
 refine J.run 3 K68_1 [(2, .bool (!(elB n)))] w1 (by kernel_rfl) ?_
 refine J.ret Tryz.f68 [.bool (!(elB n))] Tryz.func68 ⟨by kernel_rfl, trivial⟩ ?_
 refine hR _ _ ?_
 exact ⟨rfl, S1.nil⟩

theorem hb74 : HasBody Tryz.prog 74 := fun _ _ => by kernel_rfl
noncomputable def K74_0 : List Item := adv 13 [] (bodyOf Tryz.f74)
noncomputable def K74_1 : List Item := adv 5 [] K74_0
noncomputable def K74_2 : List Item := adv 14 [true] K74_1
noncomputable def K74_3 : List Item := adv 1 [] (popK (popK (popK K74_2)))
noncomputable def K74_4 : List Item := adv 6 [true] K74_3
noncomputable def K74_5 : List Item := adv 5 [false] K74_3
noncomputable def K74_6 : List Item := adv 6 [false] K74_1
set_option maxRecDepth 20000 in
set_option maxHeartbeats 20000000 in
theorem indexI0 (la : Option Addr) (len cap : Nat) (l : List Int) (g : FuncId) (q : Int → Bool) (w : World) (hI : Ones (Value.int .i64) w la len l) (hlen : len ≤ 9223372036854775807) (hbg : HasBody Tryz.prog g) (hcall : ∀ (i : Nat) (w2 : World), i < l.length → Sep w [] w2 → Ret Tryz.prog g #[iv (l.getD i 0)] w2 (fun v w3 => v = .bool (q (l.getD i 0)) ∧ Sep w2 [] w3)) : Ret Tryz.prog 74 #[.slice la len cap, .func (.func g) #[] #[]] w (fun v w' => v = iv (indexF q l) ∧ Sep w [] w') := by
 have S0 := Sep.refl w
 refine Ret.named fun R hR => ?_
 refine Ret.of_J (N := 19) [(0, .slice la len cap), (1, .func (.func g) #[] #[])] Tryz.func74 rfl rfl (Nat.le_of_ble_eq_true (by kernel_rfl)) (by kernel_rfl) ?_
 refine J.run 13 K74_0 [(8, iv 0), (7, iv (len : Int)), (0, .slice la len cap), (1, .func (.func g) #[] #[])] w (by kernel_rfl) ?_
 have L74_1 : ∀ (mm_ : Nat) (i : Int) (w1 : World), (0 ≤ i) → (i ≤ (len : Int)) → (∀ j, j < (i).toNat → q (l.getD j 0) = false) → Sep w [] w1 → ((len : Int) - i).toNat = mm_ → J Tryz.prog 74 19 R K74_0 [(8, iv i), (7, iv (len : Int)), (0, .slice la len cap), (1, .func (.func g) #[] #[])] w1 := by
  intro mm1
  induction mm1 using Nat.strongRecOn with
  | _ mm1 ih1 =>
  intro i w1 h0 h1 hq S1 hm1
  refine J.run 5 K74_1 [(9, .bool (decide (i < (len : Int)))), (8, iv i), (7, iv (len : Int)), (0, .slice la len cap), (1, .func (.func g) #[] #[])] w1 (by kernel_rfl) ?_
  by_cases fk1 : i < (len : Int)
  ·skip
   refine J.head (.bool true) (congrArg Value.bool (decide_eq_true fk1)) ?_
   refine J.run 14 K74_2 [(13, iv i), (12, .slice la len cap), (11, .func (.func g) #[] #[]), (5, iv i), (8, iv i), (7, iv (len : Int)), (0, .slice la len cap), (1, .func (.func g) #[] #[])] w1 (by kernel_rfl) ?_
   obtain ⟨p1, hp1, hc1⟩ := hI.at 0 (i).toNat (by omega)
   refine J.ok (OK.index 14 26 1 la p1 len (i).toNat i (p1.add (i).toNat) (by kernel_rfl) (by kernel_rfl) hp1 (by omega) (by omega) (by rw [Nat.mul_one])) ?_
   refine J.ok (OK.ldCell 15 3 (p1.add (i).toNat) (iv (l.getD (i).toNat 0)) (by kernel_rfl) (by kernel_rfl) (S1.cell hc1)) ?_
   refine J.callF 16 g #[iv (l.getD (i).toNat 0)] hbg (by kernel_rfl) (hcall (i).toNat w1 (by have := hI.len_eq; omega) S1.nil) ?_
   rintro _ w2 ⟨rfl, T1⟩
   have S2 : Sep w [] w2 := S1.trans T1
   clear T1 S1
   refine J.run 1 K74_3 [(16, .bool (q (l.getD (i).toNat 0))), (5, iv i), (8, iv i), (7, iv (len : Int)), (0, .slice la len cap), (1, .func (.func g) #[] #[])] w2 (by kernel_rfl) ?_
   rcases Bool.eq_false_or_eq_true (q (l.getD (i).toNat 0)) with fk2 | fk2
   ·skip
    refine J.head (.bool true) (congrArg Value.bool fk2) ?_
    refine J.run 6 K74_4 [(4, iv i)] w2 (by kernel_rfl) ?_
    refine J.ret Tryz.f74 [iv i] Tryz.func74 ⟨by kernel_rfl, trivial⟩ ?_
    refine hR _ _ ?_
    exact ⟨by rw [tup_one, indexF_some 0 i.toNat (by have := hI.len_eq; omega) hq fk2, Int.toNat_of_nonneg h0], S2.nil⟩
   ·skip
    refine J.head (.bool false) (congrArg Value.bool fk2) ?_
    refine J.run 5 K74_5 [(18, iv (IntKind.wrap .i64 (i + 1))), (7, iv (len : Int)), (0, .slice la len cap), (1, .func (.func g) #[] #[])] w2 (by kernel_rfl) ?_
    refine J.head (iv (i + 1)) (congrArg (Value.int .i64) (IntWalk.i64_in _ (by omega))) ?_
    refine J.run 3 K74_0 [(8, iv (i + 1)), (7, iv (len : Int)), (0, .slice la len cap), (1, .func (.func g) #[] #[])] w2 (by kernel_rfl) ?_
    refine J.run 0 K74_0 [(8, iv (i + 1)), (7, iv (len : Int)), (0, .slice la len cap), (1, .func (.func g) #[] #[])] w2 (by kernel_rfl) ?_
    exact ih1 _ (show ((len : Int) - (i + 1)).toNat < mm1 from by omega) (i + 1) w2 (by omega) (by omega) (by intro j hj; by_cases e : j = i.toNat; (subst e; exact fk2); exact hq j (by omega)) S2 rfl
  ·skip
   refine J.head (.bool false) (congrArg Value.bool (decide_eq_false fk1)) ?_
   refine J.run 6 K74_6 [(4, iv (-1))] w1 (by kernel_rfl) ?_
   refine J.ret Tryz.f74 [iv (-1)] Tryz.func74 ⟨by kernel_rfl, trivial⟩ ?_
   refine hR _ _ ?_
   exact ⟨by rw [tup_one, indexF_none 0 fun j hj => hq j (by have := hI.len_eq; omega)], S1.nil⟩
 exact L74_1 _ 0 w (by omega) (by omega) (by intro j hj; simp at hj) S0 rfl

theorem hb38 : HasBody Tryz.prog 38 := fun _ _ => by kernel_rfl
noncomputable def K38_0 : List Item := adv 8 [] (bodyOf Tryz.f38)
noncomputable def K38_1 : List Item := adv 3 [] (popK K38_0)
set_option maxRecDepth 20000 in
set_option maxHeartbeats 20000000 in
theorem containsI0 (la : Option Addr) (len cap : Nat) (l : List Int) (g : FuncId) (q : Int → Bool) (w : World) (hI : Ones (Value.int .i64) w la len l) (hlen : len ≤ 9223372036854775807) (hbg : HasBody Tryz.prog g) (hcall : ∀ (i : Nat) (w2 : World), i < l.length → Sep w [] w2 → Ret Tryz.prog g #[iv (l.getD i 0)] w2 (fun v w3 => v = .bool (q (l.getD i 0)) ∧ Sep w2 [] w3)) : Ret Tryz.prog 38 #[.slice la len cap, .func (.func g) #[] #[]] w (fun v w' => v = .bool (l.any q) ∧ Sep w [] w') := by
 have S0 := Sep.refl w
 refine Ret.named fun R hR => ?_
 refine Ret.of_J (N := 9) [(0, .slice la len cap), (1, .func (.func g) #[] #[])] Tryz.func38 rfl rfl (Nat.le_of_ble_eq_true (by kernel_rfl)) (by kernel_rfl) ?_
 refine J.run 8 K38_0 [(6, .func (.func g) #[] #[]), (5, .slice la len cap)] w (by kernel_rfl) ?_
 refine J.callF 7 74 #[.slice la len cap, .func (.func g) #[] #[]] hb74 (by kernel_rfl) (indexI0 la len cap l g  q _ (hI.sep S0) (by first | omega | (simp; omega)) hbg (hcall)) ?_
 rintro _ w1 ⟨rfl, T1⟩
 have S1 : Sep w [] w1 := S0.trans T1
 clear T1
 refine J.run 3 K38_1 [(4, .bool (decide ((indexF q l) ≥ 0)))] w1 (by kernel_rfl) ?_
 refine J.ret Tryz.f38 [.bool (decide ((indexF q l) ≥ 0))] Tryz.func38 ⟨by kernel_rfl, trivial⟩ ?_
 refine hR _ _ ?_
 exact ⟨congrArg Value.bool (by first | exact indexF_nonneg), S1.nil⟩

theorem hb34 : HasBody Tryz.prog 34 := fun _ _ => by kernel_rfl
noncomputable def K34_0 : List Item := adv 2 [] (bodyOf Tryz.f34)
noncomputable def K34_1 : List Item := adv 6 [] (popK K34_0)
noncomputable def K34_2 : List Item := adv 2 [] (popK (popK K34_1))
noncomputable def K34_3 : List Item := adv 1 [] K34_2
noncomputable def K34_4 : List Item := adv 3 [] (popK (popK K34_3))
noncomputable def K34_5 : List Item := adv 1 [] K34_4
noncomputable def K34_6 : List Item := adv 2 [] (popK K34_5)
noncomputable def K34_7 : List Item := adv 4 [] (popK K34_6)
noncomputable def K34_8 : List Item := adv 6 [false] K34_7
noncomputable def K34_9 : List Item := adv 5 [] (popK K34_8)
noncomputable def K34_10 : List Item := adv 5 [] K34_9
noncomputable def K34_11 : List Item := adv 6 [true] K34_10
noncomputable def K34_12 : List Item := adv 7 [] (popK (popK K34_11))
noncomputable def K34_13 : List Item := adv 3 [] (popK K34_12)
noncomputable def K34_14 : List Item := adv 1 [] K34_13
noncomputable def K34_15 : List Item := adv 2 [] (popK K34_14)
noncomputable def K34_16 : List Item := adv 5 [true] K34_15
noncomputable def K34_17 : List Item := adv 5 [false] K34_15
noncomputable def K34_18 : List Item := adv 9 [true] K34_13
noncomputable def K34_19 : List Item := adv 6 [false] K34_10
noncomputable def K34_20 : List Item := adv 5 [true] K34_7
noncomputable def K34_21 : List Item := adv 14 [true] K34_4
noncomputable def K34_22 : List Item := adv 20 [true] K34_2
set_option maxRecDepth 20000 in
set_option maxHeartbeats 20000000 in
theorem valid_any (m : Mp) (w : World) (hm : mpQ w m) : Ret Tryz.prog 34 #[.agg (mpA m)] w (fun v w' => v = .bool (validM m) ∧ Sep w [] w') := by
 have S0 := Sep.refl w
 refine Ret.named fun R hR => ?_
 refine Ret.of_J (N := 42) [(0, .agg (mpA m))] Tryz.func34 rfl rfl (Nat.le_of_ble_eq_true (by kernel_rfl)) (by kernel_rfl) ?_
 obtain ⟨q1, q2, q3, q4, q5, q6, q7, q8, q9, _⟩ := id hm
 have ql1 := q2.len_eq
 have ql2 := q5.len_eq
 have ql3 := q8.len_eq
 refine J.run 2 K34_0 [(0, .agg (mpA m))] w (by kernel_rfl) ?_
 refine J.new S0 1 (mpC m) 52 (by kernel_rfl) ?_
 intro b1 w1 S1
 refine J.run 6 K34_1 [(5, pv b1), (1, pv b1)] w1 (by kernel_rfl) ?_
 refine J.ok (OK.ldBox S1 0 6 26 0 (.slice m.gX_a m.gX_n m.gX_c) (by kernel_rfl) rfl (by kernel_rfl)) ?_
 refine J.callF 7 67 #[.slice m.gX_a m.gX_n m.gX_c] hb67 (by kernel_rfl) (axis_any m.gX_a m.gX_n m.gX_c m.gX_l _ (q2.sep S1) (by first | omega | (simp; omega))) ?_
 rintro _ w2 ⟨rfl, T1⟩
 have S2 : Sep w [box b1 (mpC m) 52] w2 := S1.trans T1
 clear T1 S1
 refine J.run 2 K34_2 [(9, .bool (!(axisB m.gX_l))), (1, pv b1)] w2 (by kernel_rfl) ?_
 rcases Bool.eq_false_or_eq_true (axisB m.gX_l) with fk1 | fk1
 ·skip
  refine J.head (.bool false) (congrArg Value.bool (by rw [fk1]; rfl)) ?_
  refine J.run 1 K34_3 [(10, .pointer (some ⟨b1, 1, none⟩)), (9, .bool false), (1, pv b1)] w2 (by kernel_rfl) ?_
  refine J.ok (OK.ldBox S2 0 11 26 1 (.slice m.gY_a m.gY_n m.gY_c) (by kernel_rfl) rfl (by kernel_rfl)) ?_
  refine J.callF 12 67 #[.slice m.gY_a m.gY_n m.gY_c] hb67 (by kernel_rfl) (axis_any m.gY_a m.gY_n m.gY_c m.gY_l _ (q5.sep S2) (by first | omega | (simp; omega))) ?_
  rintro _ w3 ⟨rfl, T2⟩
  have S3 : Sep w [box b1 (mpC m) 52] w3 := S2.trans T2
  clear T2 S2
  refine J.run 3 K34_4 [(15, .bool (!(axisB m.gY_l))), (1, pv b1)] w3 (by kernel_rfl) ?_
  rcases Bool.eq_false_or_eq_true (axisB m.gY_l) with fk2 | fk2
  ·skip
   refine J.head (.bool false) (congrArg Value.bool (by rw [fk2]; rfl)) ?_
   refine J.run 1 K34_5 [(16, .pointer (some ⟨b1, 2, none⟩)), (15, .bool false), (1, pv b1)] w3 (by kernel_rfl) ?_
   refine J.ok (OK.ldBox S3 0 17 50 2 (.slice m.gZ_a m.gZ_n m.gZ_c) (by kernel_rfl) rfl (by kernel_rfl)) ?_
   refine J.run 2 K34_6 [(19, pv b1), (18, iv (m.gZ_n : Int)), (15, .bool false), (1, pv b1)] w3 (by kernel_rfl) ?_
   refine J.ok (OK.ldBox S3 0 20 26 0 (.slice m.gX_a m.gX_n m.gX_c) (by kernel_rfl) rfl (by kernel_rfl)) ?_
   refine J.run 4 K34_7 [(23, .bool ((m.gZ_n : Int) != (m.gX_n : Int))), (1, pv b1)] w3 (by kernel_rfl) ?_
   by_cases fk3 : (m.gZ_n : Int) = (m.gX_n : Int)
   ·skip
    refine J.head (.bool false) (congrArg Value.bool (bne_eq_false_iff_eq.2 fk3)) ?_
    refine J.run 6 K34_8 [(24, .pointer (some ⟨b1, 2, none⟩)), (1, pv b1)] w3 (by kernel_rfl) ?_
    refine J.ok (OK.ldBox S3 0 25 50 2 (.slice m.gZ_a m.gZ_n m.gZ_c) (by kernel_rfl) rfl (by kernel_rfl)) ?_
    refine J.run 5 K34_9 [(27, iv 0), (26, iv (m.gZ_n : Int)), (25, .slice m.gZ_a m.gZ_n m.gZ_c), (1, pv b1)] w3 (by kernel_rfl) ?_
    have L34_1 : ∀ (mm_ : Nat) (i : Int) (w4 : World), (0 ≤ i) → (i ≤ (m.gZ_n : Int)) → (∀ j, j < (i).toNat → rowB m.gY_n (m.gZ_l.getD j rw0) = true) → Sep w [box b1 (mpC m) 52] w4 → ((m.gZ_n : Int) - i).toNat = mm_ → J Tryz.prog 34 42 R K34_9 [(27, iv i), (26, iv (m.gZ_n : Int)), (25, .slice m.gZ_a m.gZ_n m.gZ_c), (1, pv b1)] w4 := by
     intro mm1
     induction mm1 using Nat.strongRecOn with
     | _ mm1 ih1 =>
     intro i w4 h0 h1 hq S4 hm1
     refine J.run 5 K34_10 [(28, .bool (decide (i < (m.gZ_n : Int)))), (27, iv i), (26, iv (m.gZ_n : Int)), (25, .slice m.gZ_a m.gZ_n m.gZ_c), (1, pv b1)] w4 (by kernel_rfl) ?_
     by_cases fk4 : i < (m.gZ_n : Int)
     ·skip
      refine J.head (.bool true) (congrArg Value.bool (decide_eq_true fk4)) ?_
      refine J.run 6 K34_11 [(27, iv i), (26, iv (m.gZ_n : Int)), (25, .slice m.gZ_a m.gZ_n m.gZ_c), (1, pv b1)] w4 (by kernel_rfl) ?_
      obtain ⟨p1, hp1, hc1⟩ := q8.at rw0 (i).toNat (by omega)
      have hel1 := getD_Q q9 rw0 (n := (i).toNat) (by have := q8.len_eq; omega)
      obtain ⟨q10, q11, q12, _⟩ := id hel1
      have ql4 := q11.len_eq
      refine J.ok (OK.index 29 50 1 m.gZ_a p1 m.gZ_n (i).toNat i (p1.add ((i).toNat * 1)) (by kernel_rfl) (by kernel_rfl) hp1 (by omega) (by omega) rfl) ?_
      refine J.ok (OK.ldCell 30 26 (p1.add ((i).toNat * 1)) (.slice ((m.gZ_l.getD (i).toNat rw0).gS_a) ((m.gZ_l.getD (i).toNat rw0).gS_n) ((m.gZ_l.getD (i).toNat rw0).gS_c)) (by kernel_rfl) (by kernel_rfl) (S4.cell (cell_zero (hc1 0 _ rfl)))) ?_
      refine J.run 7 K34_12 [(33, .pointer (some ⟨b1, 1, none⟩)), (32, iv ((m.gZ_l.getD (i).toNat rw0).gS_n : Int)), (4, .slice ((m.gZ_l.getD (i).toNat rw0).gS_a) ((m.gZ_l.getD (i).toNat rw0).gS_n) ((m.gZ_l.getD (i).toNat rw0).gS_c)), (27, iv i), (26, iv (m.gZ_n : Int)), (25, .slice m.gZ_a m.gZ_n m.gZ_c), (1, pv b1)] w4 (by kernel_rfl) ?_
      refine J.ok (OK.ldBox S4 0 34 26 1 (.slice m.gY_a m.gY_n m.gY_c) (by kernel_rfl) rfl (by kernel_rfl)) ?_
      refine J.run 3 K34_13 [(37, .bool (((m.gZ_l.getD (i).toNat rw0).gS_n : Int) != (m.gY_n : Int))), (4, .slice ((m.gZ_l.getD (i).toNat rw0).gS_a) ((m.gZ_l.getD (i).toNat rw0).gS_n) ((m.gZ_l.getD (i).toNat rw0).gS_c)), (27, iv i), (26, iv (m.gZ_n : Int)), (25, .slice m.gZ_a m.gZ_n m.gZ_c), (1, pv b1)] w4 (by kernel_rfl) ?_
      by_cases fk5 : ((m.gZ_l.getD (i).toNat rw0).gS_n : Int) = (m.gY_n : Int)
      ·skip
       refine J.head (.bool false) (congrArg Value.bool (bne_eq_false_iff_eq.2 fk5)) ?_
       refine J.run 1 K34_14 [(38, .slice ((m.gZ_l.getD (i).toNat rw0).gS_a) ((m.gZ_l.getD (i).toNat rw0).gS_n) ((m.gZ_l.getD (i).toNat rw0).gS_c)), (37, .bool false), (27, iv i), (26, iv (m.gZ_n : Int)), (25, .slice m.gZ_a m.gZ_n m.gZ_c), (1, pv b1)] w4 (by kernel_rfl) ?_
       refine J.callF 39 38 #[.slice ((m.gZ_l.getD (i).toNat rw0).gS_a) ((m.gZ_l.getD (i).toNat rw0).gS_n) ((m.gZ_l.getD (i).toNat rw0).gS_c), .func (.func 68) #[] #[]] hb38 (by kernel_rfl) (containsI0 ((m.gZ_l.getD (i).toNat rw0).gS_a) ((m.gZ_l.getD (i).toNat rw0).gS_n) ((m.gZ_l.getD (i).toNat rw0).gS_c) ((m.gZ_l.getD (i).toNat rw0).gS_l) 68  (fun x => !elB x) _ (q11.sep S4) (by first | omega | (simp; omega)) hb68 (fun i_ w_ hi_ S_ => farz_any _ w_)) ?_
       rintro _ w5 ⟨rfl, T3⟩
       have S5 : Sep w [box b1 (mpC m) 52] w5 := S4.trans T3
       clear T3 S4
       refine J.run 2 K34_15 [(40, .bool (List.any ((m.gZ_l.getD (i).toNat rw0).gS_l) (fun x => !elB x))), (27, iv i), (26, iv (m.gZ_n : Int)), (25, .slice m.gZ_a m.gZ_n m.gZ_c), (1, pv b1)] w5 (by kernel_rfl) ?_
       rcases Bool.eq_false_or_eq_true (List.any ((m.gZ_l.getD (i).toNat rw0).gS_l) (fun x => !elB x)) with fk6 | fk6
       ·skip
        refine J.head (.bool true) (congrArg Value.bool fk6) ?_
        refine J.run 5 K34_16 [(2, .bool false)] w5 (by kernel_rfl) ?_
        refine J.ret Tryz.f34 [.bool false] Tryz.func34 ⟨by kernel_rfl, trivial⟩ ?_
        refine hR _ _ ?_
        exact ⟨congrArg Value.bool (valid_bad h0 (by omega) (row_no (.inr (by rw [any_not_all] at fk6; simpa using fk6)))).symm, S5.nil⟩
       ·skip
        refine J.head (.bool false) (congrArg Value.bool fk6) ?_
        refine J.run 5 K34_17 [(41, iv (IntKind.wrap .i64 (i + 1))), (26, iv (m.gZ_n : Int)), (25, .slice m.gZ_a m.gZ_n m.gZ_c), (1, pv b1)] w5 (by kernel_rfl) ?_
        refine J.head (iv (i + 1)) (congrArg (Value.int .i64) (IntWalk.i64_in _ (by omega))) ?_
        refine J.run 3 K34_9 [(27, iv (i + 1)), (26, iv (m.gZ_n : Int)), (25, .slice m.gZ_a m.gZ_n m.gZ_c), (1, pv b1)] w5 (by kernel_rfl) ?_
        refine J.run 0 K34_9 [(27, iv (i + 1)), (26, iv (m.gZ_n : Int)), (25, .slice m.gZ_a m.gZ_n m.gZ_c), (1, pv b1)] w5 (by kernel_rfl) ?_
        exact ih1 _ (show ((m.gZ_n : Int) - (i + 1)).toNat < mm1 from by omega) (i + 1) w5 (by omega) (by omega) (all_step h0 hq (row_yes (by omega) (by have h_ := fk6; rw [any_not_all] at h_; simpa using h_))) S5 rfl
      ·skip
       refine J.head (.bool true) (congrArg Value.bool (bne_iff_ne.2 fk5)) ?_
       refine J.run 9 K34_18 [(2, .bool false)] w4 (by kernel_rfl) ?_
       refine J.ret Tryz.f34 [.bool false] Tryz.func34 ⟨by kernel_rfl, trivial⟩ ?_
       refine hR _ _ ?_
       exact ⟨congrArg Value.bool (valid_bad h0 (by omega) (row_no (.inl (by omega)))).symm, S4.nil⟩
     ·skip
      refine J.head (.bool false) (congrArg Value.bool (decide_eq_false fk4)) ?_
      refine J.run 6 K34_19 [(2, .bool true)] w4 (by kernel_rfl) ?_
      refine J.ret Tryz.f34 [.bool true] Tryz.func34 ⟨by kernel_rfl, trivial⟩ ?_
      refine hR _ _ ?_
      exact ⟨congrArg Value.bool (valid_yes fk1 fk2 (by omega) fun j hj => hq j (by omega)).symm, S4.nil⟩
    exact L34_1 _ 0 w3 (by omega) (by omega) (by intro j hj; simp at hj) S3 rfl
   ·skip
    refine J.head (.bool true) (congrArg Value.bool (bne_iff_ne.2 fk3)) ?_
    refine J.run 5 K34_20 [(2, .bool false)] w3 (by kernel_rfl) ?_
    refine J.ret Tryz.f34 [.bool false] Tryz.func34 ⟨by kernel_rfl, trivial⟩ ?_
    refine hR _ _ ?_
    exact ⟨congrArg Value.bool (valid_no (by first | exact .inl fk2 | exact .inr (.inl fk2) | exact .inr (.inr (by omega)))).symm, S3.nil⟩
  ·skip
   refine J.head (.bool true) (congrArg Value.bool (by rw [fk2]; rfl)) ?_
   refine J.run 14 K34_21 [(2, .bool false)] w3 (by kernel_rfl) ?_
   refine J.ret Tryz.f34 [.bool false] Tryz.func34 ⟨by kernel_rfl, trivial⟩ ?_
   refine hR _ _ ?_
   exact ⟨congrArg Value.bool (valid_no (by first | exact .inl fk2 | exact .inr (.inl fk2) | exact .inr (.inr (by omega)))).symm, S3.nil⟩
 ·skip
  refine J.head (.bool true) (congrArg Value.bool (by rw [fk1]; rfl)) ?_
  refine J.run 20 K34_22 [(2, .bool false)] w2 (by kernel_rfl) ?_
  refine J.ret Tryz.f34 [.bool false] Tryz.func34 ⟨by kernel_rfl, trivial⟩ ?_
  refine hR _ _ ?_
  exact ⟨congrArg Value.bool (valid_no (by first | exact .inl fk1 | exact .inr (.inl fk1) | exact .inr (.inr (by omega)))).symm, S2.nil⟩

theorem hb23 : HasBody Tryz.prog 23 := fun _ _ => by kernel_rfl
noncomputable def K23_0 : List Item := adv 2 [] (bodyOf Tryz.f23)
noncomputable def K23_1 : List Item := adv 6 [] (popK K23_0)
noncomputable def K23_2 : List Item := adv 2 [] (popK (popK K23_1))
noncomputable def K23_3 : List Item := adv 1 [] K23_2
noncomputable def K23_4 : List Item := adv 3 [] (popK (popK K23_3))
noncomputable def K23_5 : List Item := adv 1 [] K23_4
noncomputable def K23_6 : List Item := adv 2 [] (popK K23_5)
noncomputable def K23_7 : List Item := adv 4 [] (popK K23_6)
noncomputable def K23_8 : List Item := adv 9 [false] K23_7
noncomputable def K23_9 : List Item := adv 5 [] K23_8
noncomputable def K23_10 : List Item := adv 3 [] (popK K23_9)
noncomputable def K23_11 : List Item := adv 6 [true] K23_10
noncomputable def K23_12 : List Item := adv 8 [false] (rRest K23_11)
noncomputable def K23_13 : List Item := adv 5 [] K23_12
noncomputable def K23_14 : List Item := adv 3 [] (popK K23_13)
noncomputable def K23_15 : List Item := adv 7 [true] K23_14
noncomputable def K23_16 : List Item := adv 1 [] (popK K23_15)
noncomputable def K23_17 : List Item := adv 1 [] (popK (popK K23_16))
noncomputable def K23_18 : List Item := adv 1 [] (popK (popK (popK K23_17)))
noncomputable def K23_19 : List Item := adv 6 [false] K23_18
noncomputable def K23_20 : List Item := adv 5 [true] K23_18
noncomputable def K23_21 : List Item := adv 6 [false] K23_14
noncomputable def K23_22 : List Item := adv 5 [true] (rRest K23_11)
noncomputable def K23_23 : List Item := adv 6 [false] K23_10
noncomputable def K23_24 : List Item := adv 5 [true] K23_7
noncomputable def K23_25 : List Item := adv 14 [true] K23_4
noncomputable def K23_26 : List Item := adv 20 [true] K23_2
set_option maxRecDepth 20000 in
set_option maxHeartbeats 20000000 in
theorem rvalid_any (m : Mp) (w : World) (hm : mpQ w m) : Ret Tryz.prog 23 #[.agg (mpA m)] w (fun v w' => v = .bool (validM m) ∧ Sep w [] w') := by
 have S0 := Sep.refl w
 refine Ret.named fun R hR => ?_
 refine Ret.of_J (N := 57) [(0, .agg (mpA m))] Tryz.func23 rfl rfl (Nat.le_of_ble_eq_true (by kernel_rfl)) (by kernel_rfl) ?_
 obtain ⟨q1, q2, q3, q4, q5, q6, q7, q8, q9, _⟩ := id hm
 have ql1 := q2.len_eq
 have ql2 := q5.len_eq
 have ql3 := q8.len_eq
 refine J.run 2 K23_0 [(0, .agg (mpA m))] w (by kernel_rfl) ?_
 refine J.new S0 1 (mpC m) 52 (by kernel_rfl) ?_
 intro b1 w1 S1
 refine J.run 6 K23_1 [(5, pv b1), (1, pv b1)] w1 (by kernel_rfl) ?_
 refine J.ok (OK.ldBox S1 0 6 26 0 (.slice m.gX_a m.gX_n m.gX_c) (by kernel_rfl) rfl (by kernel_rfl)) ?_
 refine J.callF 7 57 #[.slice m.gX_a m.gX_n m.gX_c] hb57 (by kernel_rfl) (raxis_any m.gX_a m.gX_n m.gX_c m.gX_l _ (q2.sep S1) (by first | omega | (simp; omega))) ?_
 rintro _ w2 ⟨rfl, T1⟩
 have S2 : Sep w [box b1 (mpC m) 52] w2 := S1.trans T1
 clear T1 S1
 refine J.run 2 K23_2 [(9, .bool (!(axisB m.gX_l))), (1, pv b1)] w2 (by kernel_rfl) ?_
 rcases Bool.eq_false_or_eq_true (axisB m.gX_l) with fk1 | fk1
 ·skip
  refine J.head (.bool false) (congrArg Value.bool (by rw [fk1]; rfl)) ?_
  refine J.run 1 K23_3 [(10, .pointer (some ⟨b1, 1, none⟩)), (9, .bool false), (1, pv b1)] w2 (by kernel_rfl) ?_
  refine J.ok (OK.ldBox S2 0 11 26 1 (.slice m.gY_a m.gY_n m.gY_c) (by kernel_rfl) rfl (by kernel_rfl)) ?_
  refine J.callF 12 57 #[.slice m.gY_a m.gY_n m.gY_c] hb57 (by kernel_rfl) (raxis_any m.gY_a m.gY_n m.gY_c m.gY_l _ (q5.sep S2) (by first | omega | (simp; omega))) ?_
  rintro _ w3 ⟨rfl, T2⟩
  have S3 : Sep w [box b1 (mpC m) 52] w3 := S2.trans T2
  clear T2 S2
  refine J.run 3 K23_4 [(15, .bool (!(axisB m.gY_l))), (1, pv b1)] w3 (by kernel_rfl) ?_
  rcases Bool.eq_false_or_eq_true (axisB m.gY_l) with fk2 | fk2
  ·skip
   refine J.head (.bool false) (congrArg Value.bool (by rw [fk2]; rfl)) ?_
   refine J.run 1 K23_5 [(16, .pointer (some ⟨b1, 2, none⟩)), (15, .bool false), (1, pv b1)] w3 (by kernel_rfl) ?_
   refine J.ok (OK.ldBox S3 0 17 50 2 (.slice m.gZ_a m.gZ_n m.gZ_c) (by kernel_rfl) rfl (by kernel_rfl)) ?_
   refine J.run 2 K23_6 [(19, pv b1), (18, iv (m.gZ_n : Int)), (15, .bool false), (1, pv b1)] w3 (by kernel_rfl) ?_
   refine J.ok (OK.ldBox S3 0 20 26 0 (.slice m.gX_a m.gX_n m.gX_c) (by kernel_rfl) rfl (by kernel_rfl)) ?_
   refine J.run 4 K23_7 [(23, .bool ((m.gZ_n : Int) != (m.gX_n : Int))), (1, pv b1)] w3 (by kernel_rfl) ?_
   by_cases fk3 : (m.gZ_n : Int) = (m.gX_n : Int)
   ·skip
    refine J.head (.bool false) (congrArg Value.bool (bne_eq_false_iff_eq.2 fk3)) ?_
    refine J.run 9 K23_8 [(3, iv 0), (1, pv b1)] w3 (by kernel_rfl) ?_
    have L23_1 : ∀ (mm_ : Nat) (i : Int) (w4 : World), (0 ≤ i) → (i ≤ (m.gZ_n : Int)) → (∀ j, j < (i).toNat → rowB m.gY_n (m.gZ_l.getD j rw0) = true) → Sep w [box b1 (mpC m) 52] w4 → ((m.gZ_n : Int) - i).toNat = mm_ → J Tryz.prog 23 57 R K23_8 [(3, iv i), (1, pv b1)] w4 := by
     intro mm1
     induction mm1 using Nat.strongRecOn with
     | _ mm1 ih1 =>
     intro i w4 h0 h1 hq S4 hm1
     refine J.run 5 K23_9 [(25, .pointer (some ⟨b1, 2, none⟩)), (24, iv i), (3, iv i), (1, pv b1)] w4 (by kernel_rfl) ?_
     refine J.ok (OK.ldBox S4 0 26 50 2 (.slice m.gZ_a m.gZ_n m.gZ_c) (by kernel_rfl) rfl (by kernel_rfl)) ?_
     refine J.run 3 K23_10 [(28, .bool (decide (i < (m.gZ_n : Int)))), (3, iv i), (1, pv b1)] w4 (by kernel_rfl) ?_
     by_cases fk4 : i < (m.gZ_n : Int)
     ·skip
      refine J.head (.bool true) (congrArg Value.bool (decide_eq_true fk4)) ?_
      refine J.run 6 K23_11 [(3, iv i), (1, pv b1)] w4 (by kernel_rfl) ?_
      obtain ⟨p1, hp1, hc1⟩ := q8.at rw0 (i).toNat (by omega)
      have hel1 := getD_Q q9 rw0 (n := (i).toNat) (by have := q8.len_eq; omega)
      obtain ⟨q10, q11, q12, _⟩ := id hel1
      have ql4 := q11.len_eq
      refine J.drawStill S4 10 Tryz.mixed (by kernel_rfl) (by kernel_rfl) (by kernel_rfl) ?_
      intro w5 S5
      refine SL.ok (by decide) (OK.run 31 (.pointer (some ⟨b1, 2, none⟩)) (by kernel_rfl)) ?_
      refine SL.ok (by decide) (OK.ldBox S5 0 32 50 2 (.slice m.gZ_a m.gZ_n m.gZ_c) (by kernel_rfl) rfl (by kernel_rfl)) ?_
      refine SL.ok (by decide) (OK.run 33 (iv i) (by kernel_rfl)) ?_
      refine SL.ok (by decide) (OK.index 34 50 1 m.gZ_a p1 m.gZ_n (i).toNat i (p1.add ((i).toNat * 1)) (by kernel_rfl) (by kernel_rfl) hp1 (by omega) (by omega) rfl) ?_
      refine SL.ok (by decide) (OK.ldCell 35 26 (p1.add ((i).toNat * 1)) (.slice ((m.gZ_l.getD (i).toNat rw0).gS_a) ((m.gZ_l.getD (i).toNat rw0).gS_n) ((m.gZ_l.getD (i).toNat rw0).gS_c)) (by kernel_rfl) (by kernel_rfl) (S5.cell (cell_zero (hc1 0 _ rfl)))) ?_
      refine SL.ok (by decide) (OK.run 36 (iv ((m.gZ_l.getD (i).toNat rw0).gS_n : Int)) (by kernel_rfl)) ?_
      refine SL.ok (by decide) (OK.run 37 (.pointer (some ⟨b1, 1, none⟩)) (by kernel_rfl)) ?_
      refine SL.ok (by decide) (OK.ldBox S5 0 38 26 1 (.slice m.gY_a m.gY_n m.gY_c) (by kernel_rfl) rfl (by kernel_rfl)) ?_
      refine SL.ok (by decide) (OK.run 39 (iv (m.gY_n : Int)) (by kernel_rfl)) ?_
      refine SL.ok (by decide) (OK.run 40 (.bool (((m.gZ_l.getD (i).toNat rw0).gS_n : Int) != (m.gY_n : Int))) (by kernel_rfl)) ?_
      refine SL.done ?_
      refine TL.done (by kernel_rfl) ?_
      refine J.run 0 (rRest K23_11) [(40, .bool (((m.gZ_l.getD (i).toNat rw0).gS_n : Int) != (m.gY_n : Int))), (3, iv i), (1, pv b1)] w5 (by kernel_rfl) ?_
      by_cases fk5 : ((m.gZ_l.getD (i).toNat rw0).gS_n : Int) = (m.gY_n : Int)
      ·skip
       refine J.head (.bool false) (congrArg Value.bool (bne_eq_false_iff_eq.2 fk5)) ?_
       refine J.run 8 K23_12 [(4, iv 0), (3, iv i), (1, pv b1)] w5 (by kernel_rfl) ?_
       have L23_2 : ∀ (mm_ : Nat) (j : Int) (w6 : World), (0 ≤ j) → (j ≤ (m.gY_n : Int)) → (∀ k, k < (j).toNat → elB ((m.gZ_l.getD (i).toNat rw0).gS_l.getD k 0) = true) → Sep w [box b1 (mpC m) 52] w6 → ((m.gY_n : Int) - j).toNat = mm_ → J Tryz.prog 23 57 R K23_12 [(4, iv j), (3, iv i), (1, pv b1)] w6 := by
        intro mm2
        induction mm2 using Nat.strongRecOn with
        | _ mm2 ih2 =>
        intro j w6 j0 j1 hq2 S6 hm2
        refine J.run 5 K23_13 [(42, .pointer (some ⟨b1, 1, none⟩)), (41, iv j), (4, iv j), (3, iv i), (1, pv b1)] w6 (by kernel_rfl) ?_
        refine J.ok (OK.ldBox S6 0 43 26 1 (.slice m.gY_a m.gY_n m.gY_c) (by kernel_rfl) rfl (by kernel_rfl)) ?_
        refine J.run 3 K23_14 [(45, .bool (decide (j < (m.gY_n : Int)))), (4, iv j), (3, iv i), (1, pv b1)] w6 (by kernel_rfl) ?_
        by_cases fk6 : j < (m.gY_n : Int)
        ·skip
         refine J.head (.bool true) (congrArg Value.bool (decide_eq_true fk6)) ?_
         refine J.run 7 K23_15 [(48, .pointer (some ⟨b1, 2, none⟩)), (4, iv j), (3, iv i), (1, pv b1)] w6 (by kernel_rfl) ?_
         refine J.ok (OK.ldBox S6 0 49 50 2 (.slice m.gZ_a m.gZ_n m.gZ_c) (by kernel_rfl) rfl (by kernel_rfl)) ?_
         refine J.run 1 K23_16 [(50, iv i), (49, .slice m.gZ_a m.gZ_n m.gZ_c), (4, iv j), (3, iv i), (1, pv b1)] w6 (by kernel_rfl) ?_
         refine J.ok (OK.index 51 50 1 m.gZ_a p1 m.gZ_n (i).toNat i (p1.add ((i).toNat * 1)) (by kernel_rfl) (by kernel_rfl) hp1 (by omega) (by omega) rfl) ?_
         refine J.ok (OK.ldCell 52 26 (p1.add ((i).toNat * 1)) (.slice ((m.gZ_l.getD (i).toNat rw0).gS_a) ((m.gZ_l.getD (i).toNat rw0).gS_n) ((m.gZ_l.getD (i).toNat rw0).gS_c)) (by kernel_rfl) (by kernel_rfl) (S6.cell (cell_zero (hc1 0 _ rfl)))) ?_
         refine J.run 1 K23_17 [(53, iv j), (52, .slice ((m.gZ_l.getD (i).toNat rw0).gS_a) ((m.gZ_l.getD (i).toNat rw0).gS_n) ((m.gZ_l.getD (i).toNat rw0).gS_c)), (4, iv j), (3, iv i), (1, pv b1)] w6 (by kernel_rfl) ?_
         obtain ⟨p2, hp2, hc2⟩ := q11.at 0 (j).toNat (by omega)
         have hel2 := getD_Q q12 0 (n := (j).toNat) (by have := q11.len_eq; omega)
         refine J.ok (OK.index 54 26 1 ((m.gZ_l.getD (i).toNat rw0).gS_a) p2 ((m.gZ_l.getD (i).toNat rw0).gS_n) (j).toNat j (p2.add (j).toNat) (by kernel_rfl) (by kernel_rfl) hp2 (by omega) (by omega) (by rw [Nat.mul_one])) ?_
         refine J.ok (OK.ldCell 55 3 (p2.add (j).toNat) (iv (((m.gZ_l.getD (i).toNat rw0).gS_l).getD (j).toNat 0)) (by kernel_rfl) (by kernel_rfl) (S6.cell hc2)) ?_
         refine J.callF 56 58 #[iv (((m.gZ_l.getD (i).toNat rw0).gS_l).getD (j).toNat 0)] hb58 (by kernel_rfl) (far_any (((m.gZ_l.getD (i).toNat rw0).gS_l).getD (j).toNat 0) _) ?_
         rintro _ w7 ⟨rfl, T3⟩
         have S7 : Sep w [box b1 (mpC m) 52] w7 := S6.trans T3
         clear T3 S6
         refine J.run 1 K23_18 [(56, .bool (!(elB (((m.gZ_l.getD (i).toNat rw0).gS_l).getD (j).toNat 0)))), (4, iv j), (3, iv i), (1, pv b1)] w7 (by kernel_rfl) ?_
         rcases Bool.eq_false_or_eq_true (elB (((m.gZ_l.getD (i).toNat rw0).gS_l).getD (j).toNat 0)) with fk7 | fk7
         ·skip
          refine J.head (.bool false) (congrArg Value.bool (by rw [fk7]; rfl)) ?_
          refine J.run 6 K23_19 [(47, iv (IntKind.wrap .i64 (j + 1))), (3, iv i), (1, pv b1)] w7 (by kernel_rfl) ?_
          refine J.head (iv (j + 1)) (congrArg (Value.int .i64) (IntWalk.i64_in _ (by omega))) ?_
          refine J.run 3 K23_12 [(4, iv (j + 1)), (3, iv i), (1, pv b1)] w7 (by kernel_rfl) ?_
          refine J.run 0 K23_12 [(4, iv (j + 1)), (3, iv i), (1, pv b1)] w7 (by kernel_rfl) ?_
          exact ih2 _ (show ((m.gY_n : Int) - (j + 1)).toNat < mm2 from by omega) (j + 1) w7 (by omega) (by omega) (all_step (q := fun k => elB ((m.gZ_l.getD (i).toNat rw0).gS_l.getD k 0) = true) j0 hq2 fk7) S7 rfl
         ·skip
          refine J.head (.bool true) (congrArg Value.bool (by rw [fk7]; rfl)) ?_
          refine J.run 5 K23_20 [(2, .bool false)] w7 (by kernel_rfl) ?_
          refine J.ret Tryz.f23 [.bool false] Tryz.func23 ⟨by kernel_rfl, trivial⟩ ?_
          refine hR _ _ ?_
          exact ⟨congrArg Value.bool (valid_bad h0 (by omega) (row_no (.inr (all_no 0 (j := j.toNat) (by omega) fk7)))).symm, S7.nil⟩
        ·skip
         refine J.head (.bool false) (congrArg Value.bool (decide_eq_false fk6)) ?_
         refine J.run 6 K23_21 [(30, iv (IntKind.wrap .i64 (i + 1))), (1, pv b1)] w6 (by kernel_rfl) ?_
         refine J.head (iv (i + 1)) (congrArg (Value.int .i64) (IntWalk.i64_in _ (by omega))) ?_
         refine J.run 3 K23_8 [(3, iv (i + 1)), (1, pv b1)] w6 (by kernel_rfl) ?_
         refine J.run 0 K23_8 [(3, iv (i + 1)), (1, pv b1)] w6 (by kernel_rfl) ?_
         exact ih1 _ (show ((m.gZ_n : Int) - (i + 1)).toNat < mm1 from by omega) (i + 1) w6 (by omega) (by omega) (all_step h0 hq (row_yes (by omega) ((all_getD 0).2 fun k hk => hq2 k (by omega)))) S6 rfl
       exact L23_2 _ 0 w5 (by omega) (by omega) (by intro k hk; simp at hk) S5 rfl
      ·skip
       refine J.head (.bool true) (congrArg Value.bool (bne_iff_ne.2 fk5)) ?_
       refine J.run 5 K23_22 [(2, .bool false)] w5 (by kernel_rfl) ?_
       refine J.ret Tryz.f23 [.bool false] Tryz.func23 ⟨by kernel_rfl, trivial⟩ ?_
       refine hR _ _ ?_
       exact ⟨congrArg Value.bool (valid_bad h0 (by omega) (row_no (.inl (by omega)))).symm, S5.nil⟩
     ·skip
      refine J.head (.bool false) (congrArg Value.bool (decide_eq_false fk4)) ?_
      refine J.run 6 K23_23 [(2, .bool true)] w4 (by kernel_rfl) ?_
      refine J.ret Tryz.f23 [.bool true] Tryz.func23 ⟨by kernel_rfl, trivial⟩ ?_
      refine hR _ _ ?_
      exact ⟨congrArg Value.bool (valid_yes fk1 fk2 (by omega) fun j hj => hq j (by omega)).symm, S4.nil⟩
    exact L23_1 _ 0 w3 (by omega) (by omega) (by intro j hj; simp at hj) S3 rfl
   ·skip
    refine J.head (.bool true) (congrArg Value.bool (bne_iff_ne.2 fk3)) ?_
    refine J.run 5 K23_24 [(2, .bool false)] w3 (by kernel_rfl) ?_
    refine J.ret Tryz.f23 [.bool false] Tryz.func23 ⟨by kernel_rfl, trivial⟩ ?_
    refine hR _ _ ?_
    exact ⟨congrArg Value.bool (valid_no (by first | exact .inl fk2 | exact .inr (.inl fk2) | exact .inr (.inr (by omega)))).symm, S3.nil⟩
  ·skip
   refine J.head (.bool true) (congrArg Value.bool (by rw [fk2]; rfl)) ?_
   refine J.run 14 K23_25 [(2, .bool false)] w3 (by kernel_rfl) ?_
   refine J.ret Tryz.f23 [.bool false] Tryz.func23 ⟨by kernel_rfl, trivial⟩ ?_
   refine hR _ _ ?_
   exact ⟨congrArg Value.bool (valid_no (by first | exact .inl fk2 | exact .inr (.inl fk2) | exact .inr (.inr (by omega)))).symm, S3.nil⟩
 ·skip
  refine J.head (.bool true) (congrArg Value.bool (by rw [fk1]; rfl)) ?_
  refine J.run 20 K23_26 [(2, .bool false)] w2 (by kernel_rfl) ?_
  refine J.ret Tryz.f23 [.bool false] Tryz.func23 ⟨by kernel_rfl, trivial⟩ ?_
  refine hR _ _ ?_
  exact ⟨congrArg Value.bool (valid_no (by first | exact .inl fk1 | exact .inr (.inl fk1) | exact .inr (.inr (by omega)))).symm, S2.nil⟩

structure Crv where
  gX_a : Option Addr
  gX_n : Nat
  gX_c : Nat
  gX_l : List Int
  gY_a : Option Addr
  gY_n : Nat
  gY_c : Nat
  gY_l : List Int
def crvE (x : Crv) : List Value := [.slice x.gX_a x.gX_n x.gX_c, .slice x.gY_a x.gY_n x.gY_c]
def crvQ (w : World) (x : Crv) : Prop := (x.gX_n ≤ x.gX_c ∧ x.gX_c ≤ 9223372036854775807) ∧ Ones (Value.int .i64) w x.gX_a x.gX_n x.gX_l ∧ (∀ y ∈ x.gX_l, (fun n => (-9223372036854775808) ≤ n ∧ n ≤ 9223372036854775807) y) ∧ (x.gY_n ≤ x.gY_c ∧ x.gY_c ≤ 9223372036854775807) ∧ Ones (Value.int .i64) w x.gY_a x.gY_n x.gY_l ∧ (∀ y ∈ x.gY_l, (fun n => (-9223372036854775808) ≤ n ∧ n ≤ 9223372036854775807) y) ∧ True
theorem crvQ_sep {w0 w : World} {L : List Eng.Claim} {x : Crv} (h : crvQ w0 x) (S : Sep w0 L w) : crvQ w x := by
  obtain ⟨hgX1, hgX2, hgX3, hgY1, hgY2, hgY3, _⟩ := h
  exact ⟨hgX1, hgX2.sep S, hgX3, hgY1, hgY2.sep S, hgY3, trivial⟩
abbrev crvC (x : Crv) : List Value := [.slice x.gX_a x.gX_n x.gX_c, .slice x.gY_a x.gY_n x.gY_c]
abbrev crvA (x : Crv) : Array Value := #[.slice x.gX_a x.gX_n x.gX_c, .slice x.gY_a x.gY_n x.gY_c]
theorem axis_adj {l : List Int} (h1 : 2 ≤ l.length) (h2 : l.length ≤ 32) (h3 : l.all elB = true) (h : ∀ j, j + 1 < l.length → l.getD j 0 < l.getD (j + 1) 0) : axisB l = true := by
  refine axis_yes h1 h2 fun j hj => ?_
  unfold nodeB
  rw [(all_getD 0).1 h3 j hj, Bool.true_and, Bool.or_eq_true]
  cases j with
  | zero => left; rfl
  | succ j => right; exact decide_eq_true (h j hj)
theorem axis_far {l : List Int} (h : l.all elB = false) : axisB l = false := by
  cases hx : axisB l with
  | false => rfl
  | true =>
    have : l.all elB = true := (all_getD 0).2 fun j hj => elB_iff.2 ((axis_facts hx).2.1 j hj)
    rw [this] at h; cases h
theorem axis_down {l : List Int} {i : Int} (h0 : 0 ≤ i) (hi : i + 1 < (l.length : Int)) (h : l.getD i.toNat 0 ≥ l.getD (i + 1).toNat 0) : axisB l = false :=
  axis_bad (i := i + 1) (by omega) hi (node_no (by omega) (.inr ⟨by omega, by rw [show i + 1 - 1 = i by omega]; exact h⟩))
def validV (c : Crv) : Bool := c.gX_n == c.gY_n && axisB c.gX_l && c.gY_l.all elB
theorem validV_no {c : Crv} (h : c.gX_n ≠ c.gY_n ∨ axisB c.gX_l = false ∨ c.gY_l.all elB = false) : validV c = false := by
  unfold validV
  rcases h with h | h | h
  · rw [beq_eq_false_iff_ne.2 h]; rfl
  · rw [h]; simp
  · rw [h]; simp
theorem validV_yes {c : Crv} (h1 : c.gX_n = c.gY_n) (h2 : axisB c.gX_l = true) (h3 : c.gY_l.all elB = true) : validV c = true := by unfold validV; rw [h1, h2, h3]; simp
theorem hb66 : HasBody Tryz.prog 66 := fun _ _ => by kernel_rfl
noncomputable def K66_0 : List Item := adv 9 [] (bodyOf Tryz.f66)
noncomputable def K66_1 : List Item := adv 5 [] K66_0
noncomputable def K66_2 : List Item := adv 5 [] K66_0
set_option maxRecDepth 20000 in
set_option maxHeartbeats 20000000 in
theorem cfar_any (n : Int) (w : World) : Ret Tryz.prog 66 #[iv n] w (fun v w' => v = .bool (!elB n) ∧ Sep w [] w') := by
 have S0 := Sep.refl w
 refine Ret.named fun R hR => ?_
 refine Ret.of_J (N := 9) [(0, iv n)] Tryz.func66 rfl rfl (Nat.le_of_ble_eq_true (by kernel_rfl)) (by kernel_rfl) ?_
 refine J.run 9 K66_0 [(5, .bool (decide (n < (-1073741824)))), (0, iv n)] w (by kernel_rfl) ?_
 by_cases fk1 : n < (-1073741824)
 ·skip
  refine J.head (.bool true) (congrArg Value.bool (decide_eq_true fk1)) ?_
  refine J.run 5 K66_1 [(2, .bool true)] w (by kernel_rfl) ?_
  refine J.ret Tryz.f66 [.bool true] Tryz.func66 ⟨by kernel_rfl, trivial⟩ ?_
  refine hR _ _ ?_
  exact ⟨congrArg Value.bool (by rw [Bool.eq_iff_iff]; simp [elB]; omega), S0.nil⟩
 ·skip
  refine J.head (.bool false) (congrArg Value.bool (decide_eq_false fk1)) ?_
  refine J.run 5 K66_2 [(2, .bool (decide (n > 1073741824)))] w (by kernel_rfl) ?_
  refine J.ret Tryz.f66 [.bool (decide (n > 1073741824))] Tryz.func66 ⟨by kernel_rfl, trivial⟩ ?_
  refine hR _ _ ?_
  exact ⟨congrArg Value.bool (by rw [Bool.eq_iff_iff]; simp [elB]; omega), S0.nil⟩

theorem hb65 : HasBody Tryz.prog 65 := fun _ _ => by kernel_rfl
noncomputable def K65_0 : List Item := adv 11 [] (bodyOf Tryz.f65)
noncomputable def K65_1 : List Item := adv 14 [true] K65_0
noncomputable def K65_2 : List Item := adv 5 [] K65_0
noncomputable def K65_3 : List Item := adv 9 [true] K65_2
noncomputable def K65_4 : List Item := adv 1 [] K65_2
noncomputable def K65_5 : List Item := adv 2 [] (popK K65_4)
noncomputable def K65_6 : List Item := adv 5 [true] K65_5
noncomputable def K65_7 : List Item := adv 8 [false] K65_5
noncomputable def K65_8 : List Item := adv 4 [] K65_7
noncomputable def K65_9 : List Item := adv 5 [] K65_8
noncomputable def K65_10 : List Item := adv 10 [true] K65_9
noncomputable def K65_11 : List Item := adv 5 [true] (rRest K65_10)
noncomputable def K65_12 : List Item := adv 5 [false] (rRest K65_10)
noncomputable def K65_13 : List Item := adv 6 [false] K65_9
set_option maxRecDepth 20000 in
set_option maxHeartbeats 20000000 in
theorem caxis_any (la : Option Addr) (len cap : Nat) (l : List Int) (w : World) (hI : Ints w la len l) (hlen : len ≤ 9223372036854775807) : Ret Tryz.prog 65 #[.slice la len cap] w (fun v w' => v = .bool (axisB l) ∧ Sep w [] w') := by
 have S0 := Sep.refl w
 refine Ret.named fun R hR => ?_
 refine Ret.of_J (N := 33) [(0, .slice la len cap)] Tryz.func65 rfl rfl (Nat.le_of_ble_eq_true (by kernel_rfl)) (by kernel_rfl) ?_
 have hll := hI.len_eq
 refine J.run 11 K65_0 [(7, .bool (decide ((len : Int) < 2))), (0, .slice la len cap)] w (by kernel_rfl) ?_
 by_cases fk1 : (len : Int) < 2
 ·skip
  refine J.head (.bool true) (congrArg Value.bool (decide_eq_true fk1)) ?_
  refine J.run 14 K65_1 [(2, .bool false)] w (by kernel_rfl) ?_
  refine J.ret Tryz.f65 [.bool false] Tryz.func65 ⟨by kernel_rfl, trivial⟩ ?_
  refine hR _ _ ?_
  exact ⟨congrArg Value.bool (axis_no (by omega)).symm, S0.nil⟩
 ·skip
  refine J.head (.bool false) (congrArg Value.bool (decide_eq_false fk1)) ?_
  refine J.run 5 K65_2 [(12, .bool (decide ((len : Int) > 32))), (0, .slice la len cap)] w (by kernel_rfl) ?_
  by_cases fk2 : (len : Int) > 32
  ·skip
   refine J.head (.bool true) (congrArg Value.bool (decide_eq_true fk2)) ?_
   refine J.run 9 K65_3 [(2, .bool false)] w (by kernel_rfl) ?_
   refine J.ret Tryz.f65 [.bool false] Tryz.func65 ⟨by kernel_rfl, trivial⟩ ?_
   refine hR _ _ ?_
   exact ⟨congrArg Value.bool (axis_no (by omega)).symm, S0.nil⟩
  ·skip
   refine J.head (.bool false) (congrArg Value.bool (decide_eq_false fk2)) ?_
   refine J.run 1 K65_4 [(13, .slice la len cap), (12, .bool false), (0, .slice la len cap)] w (by kernel_rfl) ?_
   refine J.callF 14 38 #[.slice la len cap, .func (.func 66) #[] #[]] hb38 (by kernel_rfl) (containsI0 la len cap l 66  (fun x => !elB x) _ (hI.sep S0) (by first | omega | (simp; omega)) hb66 (fun i_ w_ hi_ S_ => cfar_any _ w_)) ?_
   rintro _ w1 ⟨rfl, T1⟩
   have S1 : Sep w [] w1 := S0.trans T1
   clear T1
   refine J.run 2 K65_5 [(15, .bool (List.any l (fun x => !elB x))), (0, .slice la len cap)] w1 (by kernel_rfl) ?_
   rcases Bool.eq_false_or_eq_true (List.any l (fun x => !elB x)) with fk3 | fk3
   ·skip
    refine J.head (.bool true) (congrArg Value.bool fk3) ?_
    refine J.run 5 K65_6 [(2, .bool false)] w1 (by kernel_rfl) ?_
    refine J.ret Tryz.f65 [.bool false] Tryz.func65 ⟨by kernel_rfl, trivial⟩ ?_
    refine hR _ _ ?_
    exact ⟨congrArg Value.bool (axis_far (by have h_ := fk3; rw [any_not_all] at h_; simpa using h_)).symm, S1.nil⟩
   ·skip
    refine J.head (.bool false) (congrArg Value.bool fk3) ?_
    refine J.run 8 K65_7 [(18, iv (IntKind.wrap .i64 ((len : Int) - 1))), (0, .slice la len cap)] w1 (by kernel_rfl) ?_
    refine J.head (iv ((len : Int) - 1)) (congrArg (Value.int .i64) (IntWalk.i64_in _ (by omega))) ?_
    refine J.run 4 K65_8 [(19, iv 0), (18, iv ((len : Int) - 1)), (0, .slice la len cap)] w1 (by kernel_rfl) ?_
    have L65_1 : ∀ (mm_ : Nat) (i : Int) (w2 : World), (0 ≤ i) → (i + 1 ≤ (len : Int)) → (∀ j, j < (i).toNat → l.getD j 0 < l.getD (j + 1) 0) → Sep w [] w2 → ((len : Int) - i).toNat = mm_ → J Tryz.prog 65 33 R K65_8 [(19, iv i), (18, iv ((len : Int) - 1)), (0, .slice la len cap)] w2 := by
     intro mm1
     induction mm1 using Nat.strongRecOn with
     | _ mm1 ih1 =>
     intro i w2 h0 h1 hq S2 hm1
     refine J.run 5 K65_9 [(20, .bool (decide (i < ((len : Int) - 1)))), (19, iv i), (18, iv ((len : Int) - 1)), (0, .slice la len cap)] w2 (by kernel_rfl) ?_
     by_cases fk4 : i < ((len : Int) - 1)
     ·skip
      refine J.head (.bool true) (congrArg Value.bool (decide_eq_true fk4)) ?_
      refine J.run 10 K65_10 [(3, iv i), (19, iv i), (18, iv ((len : Int) - 1)), (0, .slice la len cap)] w2 (by kernel_rfl) ?_
      obtain ⟨p1, hp1, hc1⟩ := hI.at 0 (i).toNat (by omega)
      obtain ⟨p2, hp2, hc2⟩ := hI.at 0 (i + 1).toNat (by omega)
      refine J.drawStill S2 10 Tryz.mixed (by kernel_rfl) (by kernel_rfl) (by kernel_rfl) ?_
      intro w3 S3
      refine SL.ok (by decide) (OK.run 22 (.slice la len cap) (by kernel_rfl)) ?_
      refine SL.ok (by decide) (OK.run 23 (iv i) (by kernel_rfl)) ?_
      refine SL.ok (by decide) (OK.index 24 26 1 la p1 len (i).toNat i (p1.add (i).toNat) (by kernel_rfl) (by kernel_rfl) hp1 (by omega) (by omega) (by rw [Nat.mul_one])) ?_
      refine SL.ok (by decide) (OK.ldCell 25 3 (p1.add (i).toNat) (iv (l.getD (i).toNat 0)) (by kernel_rfl) (by kernel_rfl) (S3.cell hc1)) ?_
      refine SL.ok (by decide) (OK.run 26 (.slice la len cap) (by kernel_rfl)) ?_
      refine SL.ok (by decide) (OK.run 27 (iv i) (by kernel_rfl)) ?_
      refine SL.ok (by decide) (OK.run 28 (iv (IntKind.wrap .i64 (i + 1))) (by kernel_rfl)) ?_
      refine SL.head (iv (i + 1)) (congrArg (Value.int .i64) (IntWalk.i64_in _ (by omega))) ?_
      refine SL.ok (by decide) (OK.index 29 26 1 la p2 len (i + 1).toNat (i + 1) (p2.add (i + 1).toNat) (by kernel_rfl) (by kernel_rfl) hp2 (by omega) (by omega) (by rw [Nat.mul_one])) ?_
      refine SL.ok (by decide) (OK.ldCell 30 3 (p2.add (i + 1).toNat) (iv (l.getD (i + 1).toNat 0)) (by kernel_rfl) (by kernel_rfl) (S3.cell hc2)) ?_
      refine SL.ok (by decide) (OK.run 31 (.bool (decide ((l.getD (i).toNat 0) ≥ (l.getD (i + 1).toNat 0)))) (by kernel_rfl)) ?_
      refine SL.done ?_
      refine TL.done (by kernel_rfl) ?_
      refine J.run 0 (rRest K65_10) [(31, .bool (decide ((l.getD (i).toNat 0) ≥ (l.getD (i + 1).toNat 0)))), (19, iv i), (18, iv ((len : Int) - 1)), (0, .slice la len cap)] w3 (by kernel_rfl) ?_
      by_cases fk5 : (l.getD (i).toNat 0) ≥ (l.getD (i + 1).toNat 0)
      ·skip
       refine J.head (.bool true) (congrArg Value.bool (decide_eq_true fk5)) ?_
       refine J.run 5 K65_11 [(2, .bool false)] w3 (by kernel_rfl) ?_
       refine J.ret Tryz.f65 [.bool false] Tryz.func65 ⟨by kernel_rfl, trivial⟩ ?_
       refine hR _ _ ?_
       exact ⟨congrArg Value.bool (axis_down h0 (by omega) (by omega)).symm, S3.nil⟩
      ·skip
       refine J.head (.bool false) (congrArg Value.bool (decide_eq_false fk5)) ?_
       refine J.run 5 K65_12 [(32, iv (IntKind.wrap .i64 (i + 1))), (18, iv ((len : Int) - 1)), (0, .slice la len cap)] w3 (by kernel_rfl) ?_
       refine J.head (iv (i + 1)) (congrArg (Value.int .i64) (IntWalk.i64_in _ (by omega))) ?_
       refine J.run 3 K65_8 [(19, iv (i + 1)), (18, iv ((len : Int) - 1)), (0, .slice la len cap)] w3 (by kernel_rfl) ?_
       refine J.run 0 K65_8 [(19, iv (i + 1)), (18, iv ((len : Int) - 1)), (0, .slice la len cap)] w3 (by kernel_rfl) ?_
       exact ih1 _ (show ((len : Int) - (i + 1)).toNat < mm1 from by omega) (i + 1) w3 (by omega) (by omega) (all_step (q := fun j => l.getD j 0 < l.getD (j + 1) 0) h0 hq (by rw [show i.toNat + 1 = (i + 1).toNat by omega]; omega)) S3 rfl
     ·skip
      refine J.head (.bool false) (congrArg Value.bool (decide_eq_false fk4)) ?_
      refine J.run 6 K65_13 [(2, .bool true)] w2 (by kernel_rfl) ?_
      refine J.ret Tryz.f65 [.bool true] Tryz.func65 ⟨by kernel_rfl, trivial⟩ ?_
      refine hR _ _ ?_
      exact ⟨congrArg Value.bool (axis_adj (by omega) (by omega) (by have h_ := fk3; rw [any_not_all] at h_; simpa using h_) fun j hj => hq j (by omega)).symm, S2.nil⟩
    exact L65_1 _ 0 w1 (by omega) (by omega) (by intro j hj; simp at hj) S1 rfl

theorem hb32 : HasBody Tryz.prog 32 := fun _ _ => by kernel_rfl
noncomputable def K32_0 : List Item := adv 2 [] (bodyOf Tryz.f32)
noncomputable def K32_1 : List Item := adv 5 [] (popK K32_0)
noncomputable def K32_2 : List Item := adv 2 [] (popK K32_1)
noncomputable def K32_3 : List Item := adv 3 [] (popK K32_2)
noncomputable def K32_4 : List Item := adv 1 [] K32_3
noncomputable def K32_5 : List Item := adv 2 [] (popK (popK K32_4))
noncomputable def K32_6 : List Item := adv 1 [] K32_5
noncomputable def K32_7 : List Item := adv 4 [] (popK (popK K32_6))
noncomputable def K32_8 : List Item := adv 7 [] K32_5
noncomputable def K32_9 : List Item := adv 12 [] K32_3
set_option maxRecDepth 20000 in
set_option maxHeartbeats 20000000 in
theorem cvalid_any (c : Crv) (w : World) (hc : crvQ w c) : Ret Tryz.prog 32 #[.agg (crvA c)] w (fun v w' => v = .bool (validV c) ∧ Sep w [] w') := by
 have S0 := Sep.refl w
 refine Ret.named fun R hR => ?_
 refine Ret.of_J (N := 21) [(0, .agg (crvA c))] Tryz.func32 rfl rfl (Nat.le_of_ble_eq_true (by kernel_rfl)) (by kernel_rfl) ?_
 obtain ⟨q1, q2, q3, q4, q5, q6, _⟩ := id hc
 have ql1 := q2.len_eq
 have ql2 := q5.len_eq
 refine J.run 2 K32_0 [(0, .agg (crvA c))] w (by kernel_rfl) ?_
 refine J.new S0 1 (crvC c) 56 (by kernel_rfl) ?_
 intro b1 w1 S1
 refine J.run 5 K32_1 [(3, pv b1), (1, pv b1)] w1 (by kernel_rfl) ?_
 refine J.ok (OK.ldBox S1 0 4 26 0 (.slice c.gX_a c.gX_n c.gX_c) (by kernel_rfl) rfl (by kernel_rfl)) ?_
 refine J.run 2 K32_2 [(6, .pointer (some ⟨b1, 1, none⟩)), (5, iv (c.gX_n : Int)), (1, pv b1)] w1 (by kernel_rfl) ?_
 refine J.ok (OK.ldBox S1 0 7 26 1 (.slice c.gY_a c.gY_n c.gY_c) (by kernel_rfl) rfl (by kernel_rfl)) ?_
 refine J.run 3 K32_3 [(10, .bool ((c.gX_n : Int) == (c.gY_n : Int))), (1, pv b1)] w1 (by kernel_rfl) ?_
 by_cases fk1 : (c.gX_n : Int) = (c.gY_n : Int)
 ·skip
  refine J.head (.bool true) (congrArg Value.bool (beq_iff_eq.2 fk1)) ?_
  refine J.run 1 K32_4 [(11, pv b1), (10, .bool true), (1, pv b1)] w1 (by kernel_rfl) ?_
  refine J.ok (OK.ldBox S1 0 12 26 0 (.slice c.gX_a c.gX_n c.gX_c) (by kernel_rfl) rfl (by kernel_rfl)) ?_
  refine J.callF 13 65 #[.slice c.gX_a c.gX_n c.gX_c] hb65 (by kernel_rfl) (caxis_any c.gX_a c.gX_n c.gX_c c.gX_l _ (q2.sep S1) (by first | omega | (simp; omega))) ?_
  rintro _ w2 ⟨rfl, T1⟩
  have S2 : Sep w [box b1 (crvC c) 56] w2 := S1.trans T1
  clear T1 S1
  refine J.run 2 K32_5 [(15, .bool (axisB c.gX_l)), (1, pv b1)] w2 (by kernel_rfl) ?_
  rcases Bool.eq_false_or_eq_true (axisB c.gX_l) with fk2 | fk2
  ·skip
   refine J.head (.bool true) (congrArg Value.bool fk2) ?_
   refine J.run 1 K32_6 [(16, .pointer (some ⟨b1, 1, none⟩)), (15, .bool true)] w2 (by kernel_rfl) ?_
   refine J.ok (OK.ldBox S2 0 17 26 1 (.slice c.gY_a c.gY_n c.gY_c) (by kernel_rfl) rfl (by kernel_rfl)) ?_
   refine J.callF 18 38 #[.slice c.gY_a c.gY_n c.gY_c, .func (.func 66) #[] #[]] hb38 (by kernel_rfl) (containsI0 c.gY_a c.gY_n c.gY_c c.gY_l 66  (fun x => !elB x) _ (q5.sep S2) (by first | omega | (simp; omega)) hb66 (fun i_ w_ hi_ S_ => cfar_any _ w_)) ?_
   rintro _ w3 ⟨rfl, T2⟩
   have S3 : Sep w [box b1 (crvC c) 56] w3 := S2.trans T2
   clear T2 S2
   refine J.run 4 K32_7 [(2, .bool (!(List.any c.gY_l (fun x => !elB x))))] w3 (by kernel_rfl) ?_
   refine J.ret Tryz.f32 [.bool (!(List.any c.gY_l (fun x => !elB x)))] Tryz.func32 ⟨by kernel_rfl, trivial⟩ ?_
   refine hR _ _ ?_
   exact ⟨congrArg Value.bool (by unfold validV; rw [fk2, show c.gX_n = c.gY_n by omega, any_not_all]; simp), S3.nil⟩
  ·skip
   refine J.head (.bool false) (congrArg Value.bool fk2) ?_
   refine J.run 7 K32_8 [(2, .bool false)] w2 (by kernel_rfl) ?_
   refine J.ret Tryz.f32 [.bool false] Tryz.func32 ⟨by kernel_rfl, trivial⟩ ?_
   refine hR _ _ ?_
   exact ⟨congrArg Value.bool (validV_no (by first | exact .inr (.inl fk2) | exact .inl (by omega))).symm, S2.nil⟩
 ·skip
  refine J.head (.bool false) (congrArg Value.bool (beq_eq_false_iff_ne.2 fk1)) ?_
  refine J.run 12 K32_9 [(2, .bool false)] w1 (by kernel_rfl) ?_
  refine J.ret Tryz.f32 [.bool false] Tryz.func32 ⟨by kernel_rfl, trivial⟩ ?_
  refine hR _ _ ?_
  exact ⟨congrArg Value.bool (validV_no (by first | exact .inr (.inl rfl) | exact .inl (by omega))).symm, S1.nil⟩

theorem hb56 : HasBody Tryz.prog 56 := fun _ _ => by kernel_rfl
noncomputable def K56_0 : List Item := adv 9 [] (bodyOf Tryz.f56)
noncomputable def K56_1 : List Item := adv 5 [] K56_0
noncomputable def K56_2 : List Item := adv 5 [] K56_0
set_option maxRecDepth 20000 in
set_option maxHeartbeats 20000000 in
theorem rfits_any (n : Int) (w : World) : Ret Tryz.prog 56 #[iv n] w (fun v w' => v = .bool (elB n) ∧ Sep w [] w') := by
 have S0 := Sep.refl w
 refine Ret.named fun R hR => ?_
 refine Ret.of_J (N := 9) [(0, iv n)] Tryz.func56 rfl rfl (Nat.le_of_ble_eq_true (by kernel_rfl)) (by kernel_rfl) ?_
 refine J.run 9 K56_0 [(5, .bool (decide (n ≥ (-1073741824)))), (0, iv n)] w (by kernel_rfl) ?_
 by_cases fk1 : n ≥ (-1073741824)
 ·skip
  refine J.head (.bool true) (congrArg Value.bool (decide_eq_true fk1)) ?_
  refine J.run 5 K56_1 [(2, .bool (decide (n ≤ 1073741824)))] w (by kernel_rfl) ?_
  refine J.ret Tryz.f56 [.bool (decide (n ≤ 1073741824))] Tryz.func56 ⟨by kernel_rfl, trivial⟩ ?_
  refine hR _ _ ?_
  exact ⟨congrArg Value.bool (by rw [Bool.eq_iff_iff]; simp [elB]; omega), S0.nil⟩
 ·skip
  refine J.head (.bool false) (congrArg Value.bool (decide_eq_false fk1)) ?_
  refine J.run 5 K56_2 [(2, .bool false)] w (by kernel_rfl) ?_
  refine J.ret Tryz.f56 [.bool false] Tryz.func56 ⟨by kernel_rfl, trivial⟩ ?_
  refine hR _ _ ?_
  exact ⟨congrArg Value.bool (by rw [Bool.eq_iff_iff]; simp [elB]; omega), S0.nil⟩

theorem hb55 : HasBody Tryz.prog 55 := fun _ _ => by kernel_rfl
noncomputable def K55_0 : List Item := adv 11 [] (bodyOf Tryz.f55)
noncomputable def K55_1 : List Item := adv 10 [true] K55_0
noncomputable def K55_2 : List Item := adv 5 [] K55_0
noncomputable def K55_3 : List Item := adv 5 [true] K55_2
noncomputable def K55_4 : List Item := adv 9 [false] K55_2
noncomputable def K55_5 : List Item := adv 8 [] K55_4
noncomputable def K55_6 : List Item := adv 5 [true] K55_5
noncomputable def K55_7 : List Item := adv 5 [true] (rRest K55_6)
noncomputable def K55_8 : List Item := adv 6 [false] (rRest K55_6)
noncomputable def K55_9 : List Item := adv 6 [false] (rRest K55_6)
noncomputable def K55_10 : List Item := adv 5 [true] (rRest K55_6)
noncomputable def K55_11 : List Item := adv 6 [false] K55_5
set_option maxRecDepth 20000 in
set_option maxHeartbeats 20000000 in
theorem rcaxis_any (la : Option Addr) (len cap : Nat) (l : List Int) (w : World) (hI : Ints w la len l) (hlen : len ≤ 9223372036854775807) : Ret Tryz.prog 55 #[.slice la len cap] w (fun v w' => v = .bool (axisB l) ∧ Sep w [] w') := by
 have S0 := Sep.refl w
 refine Ret.named fun R hR => ?_
 refine Ret.of_J (N := 40) [(0, .slice la len cap)] Tryz.func55 rfl rfl (Nat.le_of_ble_eq_true (by kernel_rfl)) (by kernel_rfl) ?_
 have hll := hI.len_eq
 refine J.run 11 K55_0 [(7, .bool (decide ((len : Int) < 2))), (0, .slice la len cap)] w (by kernel_rfl) ?_
 by_cases fk1 : (len : Int) < 2
 ·skip
  refine J.head (.bool true) (congrArg Value.bool (decide_eq_true fk1)) ?_
  refine J.run 10 K55_1 [(2, .bool false)] w (by kernel_rfl) ?_
  refine J.ret Tryz.f55 [.bool false] Tryz.func55 ⟨by kernel_rfl, trivial⟩ ?_
  refine hR _ _ ?_
  exact ⟨congrArg Value.bool (axis_no (by omega)).symm, S0.nil⟩
 ·skip
  refine J.head (.bool false) (congrArg Value.bool (decide_eq_false fk1)) ?_
  refine J.run 5 K55_2 [(11, .bool (decide ((len : Int) > 32))), (0, .slice la len cap)] w (by kernel_rfl) ?_
  by_cases fk2 : (len : Int) > 32
  ·skip
   refine J.head (.bool true) (congrArg Value.bool (decide_eq_true fk2)) ?_
   refine J.run 5 K55_3 [(2, .bool false)] w (by kernel_rfl) ?_
   refine J.ret Tryz.f55 [.bool false] Tryz.func55 ⟨by kernel_rfl, trivial⟩ ?_
   refine hR _ _ ?_
   exact ⟨congrArg Value.bool (axis_no (by omega)).symm, S0.nil⟩
  ·skip
   refine J.head (.bool false) (congrArg Value.bool (decide_eq_false fk2)) ?_
   refine J.run 9 K55_4 [(3, iv 0), (0, .slice la len cap)] w (by kernel_rfl) ?_
   have L55_1 : ∀ (mm_ : Nat) (i : Int) (w1 : World), (0 ≤ i) → (i ≤ (len : Int)) → (∀ j, j < (i).toNat → nodeB l j = true) → Sep w [] w1 → ((len : Int) - i).toNat = mm_ → J Tryz.prog 55 40 R K55_4 [(3, iv i), (0, .slice la len cap)] w1 := by
    intro mm1
    induction mm1 using Nat.strongRecOn with
    | _ mm1 ih1 =>
    intro i w1 h0 h1 hq S1 hm1
    refine J.run 8 K55_5 [(15, .bool (decide (i < (len : Int)))), (3, iv i), (0, .slice la len cap)] w1 (by kernel_rfl) ?_
    by_cases fk3 : i < (len : Int)
    ·skip
     refine J.head (.bool true) (congrArg Value.bool (decide_eq_true fk3)) ?_
     refine J.run 5 K55_6 [(3, iv i), (0, .slice la len cap)] w1 (by kernel_rfl) ?_
     rcases Bool.eq_false_or_eq_true (elB (l.getD (i).toNat 0)) with fk4 | fk4
     ·skip
      by_cases fk5 : i > 0
      ·skip
       obtain ⟨p1, hp1, hc1⟩ := hI.at 0 (i).toNat (by omega)
       obtain ⟨p2, hp2, hc2⟩ := hI.at 0 (i - 1).toNat (by omega)
       refine J.drawPlan (fun w_ => Sep w [] w_) [(0, true), (1, true), (2, true), (3, true), (4, false), (5, true), (6, true), (7, true), (8, true), (9, true), (10, true), (11, true), (12, true), (13, true), (14, true), (15, true), (16, true), (17, true), (18, true), (19, true), (20, true), (21, true)] S1 Tryz.mixed (by kernel_rfl) (planOK_of (T := [(0, some 18, 1), (0, some 19, 8), (3, some 20, 786432), (4, some 21, 1048576), (8, some 22, 2097152), (16, some 23, 4194304), (48, some 24, 8388608), (64, some 25, 16777224), (192, some 26, 50331648), (320, some 27, 83886080), (512, some 28, 134217729), (512, some 29, 134217736), (3584, some 30, 939524096), (4608, some 31, 1207959552), (512, some 32, 134217729), (512, some 33, 134217736), (33280, some 34, 8724152320), (82432, some 35, 21609054208), (131584, some 36, 34493956096), (270848, some 37, 71001178112), (524864, some 38, 137589948416), (1048640, some 39, 274894684160)]) (by kernel_rfl) (by kernel_rfl)) ?_
       intro w2 S2
       refine PB.mk S2 ?_
       refine PL.take 0 18 (.slice la len cap) (fun _ _ => by kernel_rfl) ?_
       refine PL.take 1 19 (iv i) (fun _ _ => by kernel_rfl) ?_
       refine PL.takeOK 2 (fun w_ S_ => OK.index 20 26 1 la p1 len (i).toNat i (p1.add (i).toNat) (by kernel_rfl) (by kernel_rfl) hp1 (by omega) (by omega) (by rw [Nat.mul_one])) rfl ?_
       refine PL.takeOK 3 (fun w_ S_ => OK.ldCell 21 3 (p1.add (i).toNat) (iv (l.getD (i).toNat 0)) (by kernel_rfl) (by kernel_rfl) (S_.cell hc1)) rfl ?_
       refine PL.callF 22 56 #[iv (l.getD (i).toNat 0)] hb56 (by kernel_rfl) (rfits_any (l.getD (i).toNat 0) _) ?_
       rintro _ w3 ⟨rfl, T1⟩
       have S3 : Sep w [] w3 := S2.trans T1
       clear T1 S2
       refine PB.head (.bool true) (congrArg Value.bool fk4) ?_
       refine PB.mk S3 ?_
       refine PL.take 5 23 (.bool false) (fun _ _ => by kernel_rfl) ?_
       refine PL.take 6 24 (.bool false) (fun _ _ => by kernel_rfl) ?_
       refine PL.take 7 25 (iv i) (fun _ _ => by kernel_rfl) ?_
       refine PL.take 8 26 (.bool (decide (i > 0))) (fun _ _ => by kernel_rfl) ?_
       refine PL.head (.bool true) (congrArg Value.bool (decide_eq_true fk5)) ?_
       refine PL.take 9 27 (.bool true) (fun _ _ => by kernel_rfl) ?_
       refine PL.take 10 28 (.slice la len cap) (fun _ _ => by kernel_rfl) ?_
       refine PL.take 11 29 (iv i) (fun _ _ => by kernel_rfl) ?_
       refine PL.takeOK 12 (fun w_ S_ => OK.index 30 26 1 la p1 len (i).toNat i (p1.add (i).toNat) (by kernel_rfl) (by kernel_rfl) hp1 (by omega) (by omega) (by rw [Nat.mul_one])) rfl ?_
       refine PL.takeOK 13 (fun w_ S_ => OK.ldCell 31 3 (p1.add (i).toNat) (iv (l.getD (i).toNat 0)) (by kernel_rfl) (by kernel_rfl) (S_.cell hc1)) rfl ?_
       refine PL.take 14 32 (.slice la len cap) (fun _ _ => by kernel_rfl) ?_
       refine PL.take 15 33 (iv i) (fun _ _ => by kernel_rfl) ?_
       refine PL.take 16 34 (iv (IntKind.wrap .i64 (i - 1))) (fun _ _ => by kernel_rfl) ?_
       refine PL.head (iv (i - 1)) (congrArg (Value.int .i64) (IntWalk.i64_in _ (by omega))) ?_
       refine PL.takeOK 17 (fun w_ S_ => OK.index 35 26 1 la p2 len (i - 1).toNat (i - 1) (p2.add (i - 1).toNat) (by kernel_rfl) (by kernel_rfl) hp2 (by omega) (by omega) (by rw [Nat.mul_one])) rfl ?_
       refine PL.takeOK 18 (fun w_ S_ => OK.ldCell 36 3 (p2.add (i - 1).toNat) (iv (l.getD (i - 1).toNat 0)) (by kernel_rfl) (by kernel_rfl) (S_.cell hc2)) rfl ?_
       refine PL.take 19 37 (.bool (decide ((l.getD (i).toNat 0) ≤ (l.getD (i - 1).toNat 0)))) (fun _ _ => by kernel_rfl) ?_
       refine PL.take 20 38 (.bool (decide ((l.getD (i).toNat 0) ≤ (l.getD (i - 1).toNat 0)))) (fun _ _ => by kernel_rfl) ?_
       refine PL.take 21 39 (.bool (decide ((l.getD (i).toNat 0) ≤ (l.getD (i - 1).toNat 0)))) (fun _ _ => by kernel_rfl) ?_
       refine PL.done ?_
       refine J.run 0 (rRest K55_6) [(39, .bool (decide ((l.getD (i).toNat 0) ≤ (l.getD (i - 1).toNat 0)))), (3, iv i), (0, .slice la len cap)] w3 (by kernel_rfl) ?_
       by_cases fk6 : (l.getD (i).toNat 0) ≤ (l.getD (i - 1).toNat 0)
       ·skip
        refine J.head (.bool true) (congrArg Value.bool (decide_eq_true fk6)) ?_
        refine J.run 5 K55_7 [(2, .bool false)] w3 (by kernel_rfl) ?_
        refine J.ret Tryz.f55 [.bool false] Tryz.func55 ⟨by kernel_rfl, trivial⟩ ?_
        refine hR _ _ ?_
        exact ⟨congrArg Value.bool (axis_bad h0 (by omega) (node_no h0 (by first | exact .inl fk4 | exact .inr ⟨by omega, by omega⟩))).symm, S3.nil⟩
       ·skip
        refine J.head (.bool false) (congrArg Value.bool (decide_eq_false fk6)) ?_
        refine J.run 6 K55_8 [(17, iv (IntKind.wrap .i64 (i + 1))), (0, .slice la len cap)] w3 (by kernel_rfl) ?_
        refine J.head (iv (i + 1)) (congrArg (Value.int .i64) (IntWalk.i64_in _ (by omega))) ?_
        refine J.run 3 K55_4 [(3, iv (i + 1)), (0, .slice la len cap)] w3 (by kernel_rfl) ?_
        refine J.run 0 K55_4 [(3, iv (i + 1)), (0, .slice la len cap)] w3 (by kernel_rfl) ?_
        exact ih1 _ (show ((len : Int) - (i + 1)).toNat < mm1 from by omega) (i + 1) w3 (by omega) (by omega) (all_step h0 hq (node_yes h0 fk4 (by omega))) S3 rfl
      ·skip
       obtain ⟨p3, hp3, hc3⟩ := hI.at 0 (i).toNat (by omega)
       refine J.drawPlan (fun w_ => Sep w [] w_) [(0, true), (1, true), (2, true), (3, true), (4, false), (5, true), (6, true), (7, true), (8, true), (9, true), (10, true), (11, true), (12, true), (13, true), (14, true), (15, true), (16, true), (17, true), (18, true), (19, true), (20, true), (21, true)] S1 Tryz.mixed (by kernel_rfl) (planOK_of (T := [(0, some 18, 1), (0, some 19, 8), (3, some 20, 786432), (4, some 21, 1048576), (8, some 22, 2097152), (16, some 23, 4194304), (48, some 24, 8388608), (64, some 25, 16777224), (192, some 26, 50331648), (320, some 27, 83886080), (512, some 28, 134217729), (512, some 29, 134217736), (3584, some 30, 939524096), (4608, some 31, 1207959552), (512, some 32, 134217729), (512, some 33, 134217736), (33280, some 34, 8724152320), (82432, some 35, 21609054208), (131584, some 36, 34493956096), (270848, some 37, 71001178112), (524864, some 38, 137589948416), (1048640, some 39, 274894684160)]) (by kernel_rfl) (by kernel_rfl)) ?_
       intro w4 S4
       refine PB.mk S4 ?_
       refine PL.take 0 18 (.slice la len cap) (fun _ _ => by kernel_rfl) ?_
       refine PL.take 1 19 (iv i) (fun _ _ => by kernel_rfl) ?_
       refine PL.takeOK 2 (fun w_ S_ => OK.index 20 26 1 la p3 len (i).toNat i (p3.add (i).toNat) (by kernel_rfl) (by kernel_rfl) hp3 (by omega) (by omega) (by rw [Nat.mul_one])) rfl ?_
       refine PL.takeOK 3 (fun w_ S_ => OK.ldCell 21 3 (p3.add (i).toNat) (iv (l.getD (i).toNat 0)) (by kernel_rfl) (by kernel_rfl) (S_.cell hc3)) rfl ?_
       refine PL.callF 22 56 #[iv (l.getD (i).toNat 0)] hb56 (by kernel_rfl) (rfits_any (l.getD (i).toNat 0) _) ?_
       rintro _ w5 ⟨rfl, T2⟩
       have S5 : Sep w [] w5 := S4.trans T2
       clear T2 S4
       refine PB.head (.bool true) (congrArg Value.bool fk4) ?_
       refine PB.mk S5 ?_
       refine PL.take 5 23 (.bool false) (fun _ _ => by kernel_rfl) ?_
       refine PL.take 6 24 (.bool false) (fun _ _ => by kernel_rfl) ?_
       refine PL.take 7 25 (iv i) (fun _ _ => by kernel_rfl) ?_
       refine PL.take 8 26 (.bool (decide (i > 0))) (fun _ _ => by kernel_rfl) ?_
       refine PL.head (.bool false) (congrArg Value.bool (decide_eq_false fk5)) ?_
       refine PL.take 9 27 (.bool false) (fun _ _ => by kernel_rfl) ?_
       refine PL.takePass 10 (some 28) (by kernel_rfl) ?_
       refine PL.takePass 11 (some 29) (by kernel_rfl) ?_
       refine PL.takePass 12 (some 30) (by kernel_rfl) ?_
       refine PL.takePass 13 (some 31) (by kernel_rfl) ?_
       refine PL.takePass 14 (some 32) (by kernel_rfl) ?_
       refine PL.takePass 15 (some 33) (by kernel_rfl) ?_
       refine PL.takePass 16 (some 34) (by kernel_rfl) ?_
       refine PL.takePass 17 (some 35) (by kernel_rfl) ?_
       refine PL.takePass 18 (some 36) (by kernel_rfl) ?_
       refine PL.takePass 19 (some 37) (by kernel_rfl) ?_
       refine PL.take 20 38 (.bool false) (fun _ _ => by kernel_rfl) ?_
       refine PL.take 21 39 (.bool false) (fun _ _ => by kernel_rfl) ?_
       refine PL.done ?_
       refine J.run 0 (rRest K55_6) [(39, .bool false), (3, iv i), (0, .slice la len cap)] w5 (by kernel_rfl) ?_
       refine J.run 6 K55_9 [(17, iv (IntKind.wrap .i64 (i + 1))), (0, .slice la len cap)] w5 (by kernel_rfl) ?_
       refine J.head (iv (i + 1)) (congrArg (Value.int .i64) (IntWalk.i64_in _ (by omega))) ?_
       refine J.run 3 K55_4 [(3, iv (i + 1)), (0, .slice la len cap)] w5 (by kernel_rfl) ?_
       refine J.run 0 K55_4 [(3, iv (i + 1)), (0, .slice la len cap)] w5 (by kernel_rfl) ?_
       exact ih1 _ (show ((len : Int) - (i + 1)).toNat < mm1 from by omega) (i + 1) w5 (by omega) (by omega) (all_step h0 hq (node_yes h0 fk4 (by omega))) S5 rfl
     ·skip
      obtain ⟨p4, hp4, hc4⟩ := hI.at 0 (i).toNat (by omega)
      refine J.drawPlan (fun w_ => Sep w [] w_) [(0, true), (1, true), (2, true), (3, true), (4, false), (5, true), (6, true), (7, true), (8, true), (9, true), (10, true), (11, true), (12, true), (13, true), (14, true), (15, true), (16, true), (17, true), (18, true), (19, true), (20, true), (21, true)] S1 Tryz.mixed (by kernel_rfl) (planOK_of (T := [(0, some 18, 1), (0, some 19, 8), (3, some 20, 786432), (4, some 21, 1048576), (8, some 22, 2097152), (16, some 23, 4194304), (48, some 24, 8388608), (64, some 25, 16777224), (192, some 26, 50331648), (320, some 27, 83886080), (512, some 28, 134217729), (512, some 29, 134217736), (3584, some 30, 939524096), (4608, some 31, 1207959552), (512, some 32, 134217729), (512, some 33, 134217736), (33280, some 34, 8724152320), (82432, some 35, 21609054208), (131584, some 36, 34493956096), (270848, some 37, 71001178112), (524864, some 38, 137589948416), (1048640, some 39, 274894684160)]) (by kernel_rfl) (by kernel_rfl)) ?_
      intro w6 S6
      refine PB.mk S6 ?_
      refine PL.take 0 18 (.slice la len cap) (fun _ _ => by kernel_rfl) ?_
      refine PL.take 1 19 (iv i) (fun _ _ => by kernel_rfl) ?_
      refine PL.takeOK 2 (fun w_ S_ => OK.index 20 26 1 la p4 len (i).toNat i (p4.add (i).toNat) (by kernel_rfl) (by kernel_rfl) hp4 (by omega) (by omega) (by rw [Nat.mul_one])) rfl ?_
      refine PL.takeOK 3 (fun w_ S_ => OK.ldCell 21 3 (p4.add (i).toNat) (iv (l.getD (i).toNat 0)) (by kernel_rfl) (by kernel_rfl) (S_.cell hc4)) rfl ?_
      refine PL.callF 22 56 #[iv (l.getD (i).toNat 0)] hb56 (by kernel_rfl) (rfits_any (l.getD (i).toNat 0) _) ?_
      rintro _ w7 ⟨rfl, T3⟩
      have S7 : Sep w [] w7 := S6.trans T3
      clear T3 S6
      refine PB.head (.bool false) (congrArg Value.bool fk4) ?_
      refine PB.mk S7 ?_
      refine PL.take 5 23 (.bool true) (fun _ _ => by kernel_rfl) ?_
      refine PL.take 6 24 (.bool true) (fun _ _ => by kernel_rfl) ?_
      refine PL.takePass 7 (some 25) (by kernel_rfl) ?_
      refine PL.takePass 8 (some 26) (by kernel_rfl) ?_
      refine PL.takePass 9 (some 27) (by kernel_rfl) ?_
      refine PL.takePass 10 (some 28) (by kernel_rfl) ?_
      refine PL.takePass 11 (some 29) (by kernel_rfl) ?_
      refine PL.takePass 12 (some 30) (by kernel_rfl) ?_
      refine PL.takePass 13 (some 31) (by kernel_rfl) ?_
      refine PL.takePass 14 (some 32) (by kernel_rfl) ?_
      refine PL.takePass 15 (some 33) (by kernel_rfl) ?_
      refine PL.takePass 16 (some 34) (by kernel_rfl) ?_
      refine PL.takePass 17 (some 35) (by kernel_rfl) ?_
      refine PL.takePass 18 (some 36) (by kernel_rfl) ?_
      refine PL.takePass 19 (some 37) (by kernel_rfl) ?_
      refine PL.takePass 20 (some 38) (by kernel_rfl) ?_
      refine PL.take 21 39 (.bool true) (fun _ _ => by kernel_rfl) ?_
      refine PL.done ?_
      refine J.run 0 (rRest K55_6) [(39, .bool true), (3, iv i), (0, .slice la len cap)] w7 (by kernel_rfl) ?_
      refine J.run 5 K55_10 [(2, .bool false)] w7 (by kernel_rfl) ?_
      refine J.ret Tryz.f55 [.bool false] Tryz.func55 ⟨by kernel_rfl, trivial⟩ ?_
      refine hR _ _ ?_
      exact ⟨congrArg Value.bool (axis_bad h0 (by omega) (node_no h0 (by first | exact .inl fk4 | exact .inr ⟨by omega, by omega⟩))).symm, S7.nil⟩
    ·skip
     refine J.head (.bool false) (congrArg Value.bool (decide_eq_false fk3)) ?_
     refine J.run 6 K55_11 [(2, .bool true)] w1 (by kernel_rfl) ?_
     refine J.ret Tryz.f55 [.bool true] Tryz.func55 ⟨by kernel_rfl, trivial⟩ ?_
     refine hR _ _ ?_
     exact ⟨congrArg Value.bool (axis_yes (by omega) (by omega) fun j hj => hq j (by omega)).symm, S1.nil⟩
   exact L55_1 _ 0 w (by omega) (by omega) (by intro j hj; simp at hj) S0 rfl

theorem hb22 : HasBody Tryz.prog 22 := fun _ _ => by kernel_rfl
noncomputable def K22_0 : List Item := adv 2 [] (bodyOf Tryz.f22)
noncomputable def K22_1 : List Item := adv 6 [] (popK K22_0)
noncomputable def K22_2 : List Item := adv 2 [] (popK (popK K22_1))
noncomputable def K22_3 : List Item := adv 1 [] K22_2
noncomputable def K22_4 : List Item := adv 2 [] (popK K22_3)
noncomputable def K22_5 : List Item := adv 4 [] (popK K22_4)
noncomputable def K22_6 : List Item := adv 9 [false] K22_5
noncomputable def K22_7 : List Item := adv 5 [] K22_6
noncomputable def K22_8 : List Item := adv 3 [] (popK K22_7)
noncomputable def K22_9 : List Item := adv 7 [true] K22_8
noncomputable def K22_10 : List Item := adv 1 [] (popK K22_9)
noncomputable def K22_11 : List Item := adv 2 [] (popK (popK (popK K22_10)))
noncomputable def K22_12 : List Item := adv 6 [false] K22_11
noncomputable def K22_13 : List Item := adv 5 [true] K22_11
noncomputable def K22_14 : List Item := adv 6 [false] K22_8
noncomputable def K22_15 : List Item := adv 5 [true] K22_5
noncomputable def K22_16 : List Item := adv 14 [true] K22_2
set_option maxRecDepth 20000 in
set_option maxHeartbeats 20000000 in
theorem rcvalid_any (c : Crv) (w : World) (hc : crvQ w c) : Ret Tryz.prog 22 #[.agg (crvA c)] w (fun v w' => v = .bool (validV c) ∧ Sep w [] w') := by
 have S0 := Sep.refl w
 refine Ret.named fun R hR => ?_
 refine Ret.of_J (N := 31) [(0, .agg (crvA c))] Tryz.func22 rfl rfl (Nat.le_of_ble_eq_true (by kernel_rfl)) (by kernel_rfl) ?_
 obtain ⟨q1, q2, q3, q4, q5, q6, _⟩ := id hc
 have ql1 := q2.len_eq
 have ql2 := q5.len_eq
 refine J.run 2 K22_0 [(0, .agg (crvA c))] w (by kernel_rfl) ?_
 refine J.new S0 1 (crvC c) 56 (by kernel_rfl) ?_
 intro b1 w1 S1
 refine J.run 6 K22_1 [(4, pv b1), (1, pv b1)] w1 (by kernel_rfl) ?_
 refine J.ok (OK.ldBox S1 0 5 26 0 (.slice c.gX_a c.gX_n c.gX_c) (by kernel_rfl) rfl (by kernel_rfl)) ?_
 refine J.callF 6 55 #[.slice c.gX_a c.gX_n c.gX_c] hb55 (by kernel_rfl) (rcaxis_any c.gX_a c.gX_n c.gX_c c.gX_l _ (q2.sep S1) (by first | omega | (simp; omega))) ?_
 rintro _ w2 ⟨rfl, T1⟩
 have S2 : Sep w [box b1 (crvC c) 56] w2 := S1.trans T1
 clear T1 S1
 refine J.run 2 K22_2 [(8, .bool (!(axisB c.gX_l))), (1, pv b1)] w2 (by kernel_rfl) ?_
 rcases Bool.eq_false_or_eq_true (axisB c.gX_l) with fk1 | fk1
 ·skip
  refine J.head (.bool false) (congrArg Value.bool (by rw [fk1]; rfl)) ?_
  refine J.run 1 K22_3 [(9, .pointer (some ⟨b1, 1, none⟩)), (8, .bool false), (1, pv b1)] w2 (by kernel_rfl) ?_
  refine J.ok (OK.ldBox S2 0 10 26 1 (.slice c.gY_a c.gY_n c.gY_c) (by kernel_rfl) rfl (by kernel_rfl)) ?_
  refine J.run 2 K22_4 [(12, pv b1), (11, iv (c.gY_n : Int)), (8, .bool false), (1, pv b1)] w2 (by kernel_rfl) ?_
  refine J.ok (OK.ldBox S2 0 13 26 0 (.slice c.gX_a c.gX_n c.gX_c) (by kernel_rfl) rfl (by kernel_rfl)) ?_
  refine J.run 4 K22_5 [(16, .bool ((c.gY_n : Int) != (c.gX_n : Int))), (1, pv b1)] w2 (by kernel_rfl) ?_
  by_cases fk2 : (c.gY_n : Int) = (c.gX_n : Int)
  ·skip
   refine J.head (.bool false) (congrArg Value.bool (bne_eq_false_iff_eq.2 fk2)) ?_
   refine J.run 9 K22_6 [(3, iv 0), (1, pv b1)] w2 (by kernel_rfl) ?_
   have L22_1 : ∀ (mm_ : Nat) (i : Int) (w3 : World), (0 ≤ i) → (i ≤ (c.gY_n : Int)) → (∀ j, j < (i).toNat → elB (c.gY_l.getD j 0) = true) → Sep w [box b1 (crvC c) 56] w3 → ((c.gY_n : Int) - i).toNat = mm_ → J Tryz.prog 22 31 R K22_6 [(3, iv i), (1, pv b1)] w3 := by
    intro mm1
    induction mm1 using Nat.strongRecOn with
    | _ mm1 ih1 =>
    intro i w3 h0 h1 hq S3 hm1
    refine J.run 5 K22_7 [(18, .pointer (some ⟨b1, 1, none⟩)), (17, iv i), (3, iv i), (1, pv b1)] w3 (by kernel_rfl) ?_
    refine J.ok (OK.ldBox S3 0 19 26 1 (.slice c.gY_a c.gY_n c.gY_c) (by kernel_rfl) rfl (by kernel_rfl)) ?_
    refine J.run 3 K22_8 [(21, .bool (decide (i < (c.gY_n : Int)))), (3, iv i), (1, pv b1)] w3 (by kernel_rfl) ?_
    by_cases fk3 : i < (c.gY_n : Int)
    ·skip
     refine J.head (.bool true) (congrArg Value.bool (decide_eq_true fk3)) ?_
     refine J.run 7 K22_9 [(24, .pointer (some ⟨b1, 1, none⟩)), (3, iv i), (1, pv b1)] w3 (by kernel_rfl) ?_
     refine J.ok (OK.ldBox S3 0 25 26 1 (.slice c.gY_a c.gY_n c.gY_c) (by kernel_rfl) rfl (by kernel_rfl)) ?_
     refine J.run 1 K22_10 [(26, iv i), (25, .slice c.gY_a c.gY_n c.gY_c), (3, iv i), (1, pv b1)] w3 (by kernel_rfl) ?_
     obtain ⟨p1, hp1, hc1⟩ := q5.at 0 (i).toNat (by omega)
     have hel1 := getD_Q q6 0 (n := (i).toNat) (by have := q5.len_eq; omega)
     refine J.ok (OK.index 27 26 1 c.gY_a p1 c.gY_n (i).toNat i (p1.add (i).toNat) (by kernel_rfl) (by kernel_rfl) hp1 (by omega) (by omega) (by rw [Nat.mul_one])) ?_
     refine J.ok (OK.ldCell 28 3 (p1.add (i).toNat) (iv (c.gY_l.getD (i).toNat 0)) (by kernel_rfl) (by kernel_rfl) (S3.cell hc1)) ?_
     refine J.callF 29 56 #[iv (c.gY_l.getD (i).toNat 0)] hb56 (by kernel_rfl) (rfits_any (c.gY_l.getD (i).toNat 0) _) ?_
     rintro _ w4 ⟨rfl, T2⟩
     have S4 : Sep w [box b1 (crvC c) 56] w4 := S3.trans T2
     clear T2 S3
     refine J.run 2 K22_11 [(30, .bool (!(elB (c.gY_l.getD (i).toNat 0)))), (3, iv i), (1, pv b1)] w4 (by kernel_rfl) ?_
     rcases Bool.eq_false_or_eq_true (elB (c.gY_l.getD (i).toNat 0)) with fk4 | fk4
     ·skip
      refine J.head (.bool false) (congrArg Value.bool (by rw [fk4]; rfl)) ?_
      refine J.run 6 K22_12 [(23, iv (IntKind.wrap .i64 (i + 1))), (1, pv b1)] w4 (by kernel_rfl) ?_
      refine J.head (iv (i + 1)) (congrArg (Value.int .i64) (IntWalk.i64_in _ (by omega))) ?_
      refine J.run 3 K22_6 [(3, iv (i + 1)), (1, pv b1)] w4 (by kernel_rfl) ?_
      refine J.run 0 K22_6 [(3, iv (i + 1)), (1, pv b1)] w4 (by kernel_rfl) ?_
      exact ih1 _ (show ((c.gY_n : Int) - (i + 1)).toNat < mm1 from by omega) (i + 1) w4 (by omega) (by omega) (all_step (q := fun j => elB (c.gY_l.getD j 0) = true) h0 hq fk4) S4 rfl
     ·skip
      refine J.head (.bool true) (congrArg Value.bool (by rw [fk4]; rfl)) ?_
      refine J.run 5 K22_13 [(2, .bool false)] w4 (by kernel_rfl) ?_
      refine J.ret Tryz.f22 [.bool false] Tryz.func22 ⟨by kernel_rfl, trivial⟩ ?_
      refine hR _ _ ?_
      exact ⟨congrArg Value.bool (validV_no (.inr (.inr (all_no 0 (j := i.toNat) (by omega) fk4)))).symm, S4.nil⟩
    ·skip
     refine J.head (.bool false) (congrArg Value.bool (decide_eq_false fk3)) ?_
     refine J.run 6 K22_14 [(2, .bool true)] w3 (by kernel_rfl) ?_
     refine J.ret Tryz.f22 [.bool true] Tryz.func22 ⟨by kernel_rfl, trivial⟩ ?_
     refine hR _ _ ?_
     exact ⟨congrArg Value.bool (validV_yes (by omega) fk1 ((all_getD 0).2 fun j hj => hq j (by omega))).symm, S3.nil⟩
   exact L22_1 _ 0 w2 (by omega) (by omega) (by intro j hj; simp at hj) S2 rfl
  ·skip
   refine J.head (.bool true) (congrArg Value.bool (bne_iff_ne.2 fk2)) ?_
   refine J.run 5 K22_15 [(2, .bool false)] w2 (by kernel_rfl) ?_
   refine J.ret Tryz.f22 [.bool false] Tryz.func22 ⟨by kernel_rfl, trivial⟩ ?_
   refine hR _ _ ?_
   exact ⟨congrArg Value.bool (validV_no (by first | exact .inr (.inl fk1) | exact .inl (by omega))).symm, S2.nil⟩
 ·skip
  refine J.head (.bool true) (congrArg Value.bool (by rw [fk1]; rfl)) ?_
  refine J.run 14 K22_16 [(2, .bool false)] w2 (by kernel_rfl) ?_
  refine J.ret Tryz.f22 [.bool false] Tryz.func22 ⟨by kernel_rfl, trivial⟩ ?_
  refine hR _ _ ?_
  exact ⟨congrArg Value.bool (validV_no (by first | exact .inr (.inl fk1) | exact .inl (by omega))).symm, S2.nil⟩

end Go.Proofs.YthfpejhonhaggaaGreatDoor

