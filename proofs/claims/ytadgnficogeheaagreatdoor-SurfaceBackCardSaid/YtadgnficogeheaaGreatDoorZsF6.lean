/- Walks of functions of this seat, printed by a program over the engine. Conditions: as each theorem says. -/
import Derived.Test.YtadgnficogeheaaGreatDoorZsA5
namespace Go.Proofs.YtadgnficogeheaaGreatDoor
noncomputable section
open Go.Eng Go.RowKit
set_option linter.unusedSimpArgs false
set_option linter.unusedVariables false
structure Rw where
  gS_a : Option Addr
  gS_n : Nat
  gS_c : Nat
  gS_l : List Int
def rwE (x : Rw) : List Value := [.slice x.gS_a x.gS_n x.gS_c]
def rwQ (w : World) (x : Rw) : Prop := (x.gS_n ≤ x.gS_c ∧ x.gS_c ≤ 9223372036854775807) ∧ Ones (Value.int .i64) w x.gS_a x.gS_n x.gS_l ∧ (∀ y ∈ x.gS_l, (fun n => (-9223372036854775808) ≤ n ∧ n ≤ 9223372036854775807) y) ∧ True
theorem rwQ_sep {w0 w : World} {L : List Eng.Claim} {x : Rw} (h : rwQ w0 x) (S : Sep w0 L w) : rwQ w x := by
  obtain ⟨hgS1, hgS2, hgS3, _⟩ := h
  exact ⟨hgS1, hgS2.sep S, hgS3, trivial⟩
structure Mp where
  gX_a : Option Addr
  gX_n : Nat
  gX_c : Nat
  gX_l : List Int
  gY_a : Option Addr
  gY_n : Nat
  gY_c : Nat
  gY_l : List Int
  gZ_a : Option Addr
  gZ_n : Nat
  gZ_c : Nat
  gZ_l : List Rw
def mpQ (w : World) (x : Mp) : Prop := (x.gX_n ≤ x.gX_c ∧ x.gX_c ≤ 9223372036854775807) ∧ Ones (Value.int .i64) w x.gX_a x.gX_n x.gX_l ∧ (∀ y ∈ x.gX_l, (fun n => (-9223372036854775808) ≤ n ∧ n ≤ 9223372036854775807) y) ∧ (x.gY_n ≤ x.gY_c ∧ x.gY_c ≤ 9223372036854775807) ∧ Ones (Value.int .i64) w x.gY_a x.gY_n x.gY_l ∧ (∀ y ∈ x.gY_l, (fun n => (-9223372036854775808) ≤ n ∧ n ≤ 9223372036854775807) y) ∧ (x.gZ_n ≤ x.gZ_c ∧ x.gZ_c ≤ 9223372036854775807) ∧ Recs rwE 1 w x.gZ_a x.gZ_n x.gZ_l ∧ (∀ y ∈ x.gZ_l, (rwQ w) y) ∧ True
theorem mpQ_sep {w0 w : World} {L : List Eng.Claim} {x : Mp} (h : mpQ w0 x) (S : Sep w0 L w) : mpQ w x := by
  obtain ⟨hgX1, hgX2, hgX3, hgY1, hgY2, hgY3, hgZ1, hgZ2, hgZ3, _⟩ := h
  exact ⟨hgX1, hgX2.sep S, hgX3, hgY1, hgY2.sep S, hgY3, hgZ1, hgZ2.sep S, fun y hy => rwQ_sep (hgZ3 y hy) S, trivial⟩

def elB (n : Int) : Bool := decide (-1073741824 ≤ n) && decide (n ≤ 1073741824)
theorem elB_iff {n : Int} : elB n = true ↔ -1073741824 ≤ n ∧ n ≤ 1073741824 := by simp [elB]
theorem elB_not {n : Int} (h : elB n = false) : n < -1073741824 ∨ 1073741824 < n := by simp [elB] at h; omega
def nodeB (l : List Int) (i : Nat) : Bool := elB (l.getD i 0) && (i == 0 || decide (l.getD (i - 1) 0 < l.getD i 0))
def axisB (l : List Int) : Bool := decide (2 ≤ l.length) && decide (l.length ≤ 32) && (List.range l.length).all (nodeB l)
theorem all_range_false {n j : Nat} {p : Nat → Bool} (h : j < n) (hp : p j = false) : (List.range n).all p = false := by
  rw [List.all_eq_false]; exact ⟨j, by simpa using h, by simp [hp]⟩
theorem all_range_true {n : Nat} {p : Nat → Bool} (h : ∀ j, j < n → p j = true) : (List.range n).all p = true := by
  rw [List.all_eq_true]; intro j hj; exact h j (by simpa using hj)
theorem all_step {q : Nat → Prop} {i : Int} (h0 : 0 ≤ i) (hq : ∀ k, k < i.toNat → q k) (h : q i.toNat) : ∀ k, k < (i + 1).toNat → q k := by
  intro k hk
  by_cases e : k = i.toNat
  · subst e; exact h
  · exact hq k (by omega)
theorem node_yes {l : List Int} {i : Int} (h0 : 0 ≤ i) (h : elB (l.getD i.toNat 0) = true) (h2 : i = 0 ∨ l.getD (i - 1).toNat 0 < l.getD i.toNat 0) : nodeB l i.toNat = true := by
  unfold nodeB
  rw [h, Bool.true_and, Bool.or_eq_true]
  rcases h2 with h2 | h2
  · left; subst h2; rfl
  · right; rw [show i.toNat - 1 = (i - 1).toNat by omega]; exact decide_eq_true h2
theorem node_no {l : List Int} {i : Int} (h0 : 0 ≤ i) (h : elB (l.getD i.toNat 0) = false ∨ (0 < i ∧ l.getD i.toNat 0 ≤ l.getD (i - 1).toNat 0)) : nodeB l i.toNat = false := by
  unfold nodeB
  rcases h with h | ⟨h1, h2⟩
  · rw [h]; rfl
  · rw [beq_eq_false_iff_ne.2 (show i.toNat ≠ 0 by omega), Bool.false_or, show i.toNat - 1 = (i - 1).toNat by omega, decide_eq_false (by omega), Bool.and_false]
theorem axis_no {l : List Int} (h : l.length < 2 ∨ 32 < l.length) : axisB l = false := by
  unfold axisB
  rcases h with h | h
  · rw [decide_eq_false (by omega)]; rfl
  · rw [decide_eq_false (show ¬ l.length ≤ 32 by omega)]; simp
theorem axis_bad {l : List Int} {i : Int} (h0 : 0 ≤ i) (hi : i < (l.length : Int)) (h : nodeB l i.toNat = false) : axisB l = false := by
  unfold axisB; rw [all_range_false (j := i.toNat) (by omega) h]; simp
theorem axis_yes {l : List Int} (h1 : 2 ≤ l.length) (h2 : l.length ≤ 32) (h : ∀ j, j < l.length → nodeB l j = true) : axisB l = true := by
  unfold axisB; rw [decide_eq_true h1, decide_eq_true h2, all_range_true h]; rfl
theorem axis_facts {l : List Int} (h : axisB l = true) : (2 ≤ l.length ∧ l.length ≤ 32) ∧ (∀ j, j < l.length → -1073741824 ≤ l.getD j 0 ∧ l.getD j 0 ≤ 1073741824) ∧ ∀ j, j + 1 < l.length → l.getD j 0 < l.getD (j + 1) 0 := by
  simp only [axisB, Bool.and_eq_true, decide_eq_true_eq, List.all_eq_true, List.mem_range] at h
  obtain ⟨⟨h1, h2⟩, h3⟩ := h
  refine ⟨⟨h1, h2⟩, fun j hj => ?_, fun j hj => ?_⟩
  · have := h3 j hj
    simp only [nodeB, Bool.and_eq_true] at this
    exact elB_iff.1 this.1
  · have := h3 (j + 1) hj
    simp only [nodeB, Bool.and_eq_true, Bool.or_eq_true, beq_iff_eq, decide_eq_true_eq, Nat.add_sub_cancel] at this
    rcases this.2 with h4 | h4
    · omega
    · exact h4
theorem axis_mono {l : List Int} (h : axisB l = true) {i j : Nat} (hij : i < j) (hj : j < l.length) : l.getD i 0 < l.getD j 0 := by
  obtain ⟨_, _, h3⟩ := axis_facts h
  induction j with
  | zero => omega
  | succ j ih =>
    have := h3 j hj
    by_cases e : i = j
    · subst e; exact this
    · have := ih (by omega) (by omega); omega
def rowB (n : Nat) (r : Rw) : Bool := r.gS_n == n && r.gS_l.all elB
def validM (m : Mp) : Bool := axisB m.gX_l && axisB m.gY_l && m.gZ_n == m.gX_n && m.gZ_l.all (rowB m.gY_n)
def rw0 : Rw := ⟨none, 0, 0, []⟩
theorem row_no {n : Nat} {r : Rw} (h : r.gS_n ≠ n ∨ r.gS_l.all elB = false) : rowB n r = false := by
  unfold rowB
  rcases h with h | h
  · rw [beq_eq_false_iff_ne.2 h]; rfl
  · rw [h, Bool.and_false]
theorem row_yes {n : Nat} {r : Rw} (h : r.gS_n = n) (h2 : r.gS_l.all elB = true) : rowB n r = true := by unfold rowB; rw [h, h2]; simp
theorem getD_mem {α : Type} {l : List α} {n : Nat} (d : α) (h : n < l.length) : l.getD n d ∈ l := by
  rw [List.getD_eq_getElem?_getD, List.getElem?_eq_getElem h]; exact List.getElem_mem h
theorem all_getD {α : Type} {l : List α} {q : α → Bool} (d : α) : l.all q = true ↔ ∀ j, j < l.length → q (l.getD j d) = true := by
  rw [List.all_eq_true]
  constructor
  · intro h j hj; exact h _ (getD_mem d hj)
  · intro h x hx
    obtain ⟨j, hj, rfl⟩ := List.mem_iff_getElem.1 hx
    have := h j hj
    simpa [List.getD, hj] using this
theorem all_no {α : Type} {l : List α} {q : α → Bool} (d : α) {j : Nat} (hj : j < l.length) (h : q (l.getD j d) = false) : l.all q = false := by
  rw [List.all_eq_false]; exact ⟨_, getD_mem d hj, by rw [h]; simp⟩
theorem any_not_all {α : Type} (q : α → Bool) (l : List α) : (l.any fun x => !q x) = !l.all q := by rw [← List.not_all_eq_any_not]
theorem valid_no {m : Mp} (h : axisB m.gX_l = false ∨ axisB m.gY_l = false ∨ m.gZ_n ≠ m.gX_n) : validM m = false := by
  unfold validM
  rcases h with h | h | h
  · rw [h]; rfl
  · rw [h]; simp
  · rw [beq_eq_false_iff_ne.2 h]; simp
theorem valid_bad {m : Mp} {i : Int} (h0 : 0 ≤ i) (hi : i < (m.gZ_l.length : Int)) (h : rowB m.gY_n (m.gZ_l.getD i.toNat rw0) = false) : validM m = false := by
  unfold validM; rw [all_no rw0 (by omega) h]; simp
theorem valid_yes {m : Mp} (h1 : axisB m.gX_l = true) (h2 : axisB m.gY_l = true) (h3 : m.gZ_n = m.gX_n) (h : ∀ j, j < m.gZ_l.length → rowB m.gY_n (m.gZ_l.getD j rw0) = true) : validM m = true := by
  unfold validM; rw [h1, h2, h3, (all_getD rw0).2 h]; simp
theorem valid_facts {m : Mp} (h : validM m = true) : axisB m.gX_l = true ∧ axisB m.gY_l = true ∧ m.gZ_n = m.gX_n ∧ ∀ j, j < m.gZ_l.length → (m.gZ_l.getD j rw0).gS_n = m.gY_n ∧ ∀ k, k < (m.gZ_l.getD j rw0).gS_l.length → -1073741824 ≤ (m.gZ_l.getD j rw0).gS_l.getD k 0 ∧ (m.gZ_l.getD j rw0).gS_l.getD k 0 ≤ 1073741824 := by
  simp only [validM, Bool.and_eq_true, beq_iff_eq] at h
  obtain ⟨⟨⟨h1, h2⟩, h3⟩, h4⟩ := h
  refine ⟨h1, h2, h3, fun j hj => ?_⟩
  have h5 := (all_getD rw0).1 h4 j hj
  simp only [rowB, Bool.and_eq_true, beq_iff_eq] at h5
  exact ⟨h5.1, fun k hk => elB_iff.1 ((all_getD 0).1 h5.2 k hk)⟩
def zF (m : Mp) (i j : Nat) : Int := (m.gZ_l.getD i rw0).gS_l.getD j 0

theorem hb23 : HasBody Tryz.prog 23 := fun _ _ => by kernel_rfl
def K23_0 := adv 9 [] (bodyOf Tryz.f23)
def K23_1 := adv 5 [] K23_0
def K23_2 := adv 5 [] K23_0
set_option maxRecDepth 20000 in
set_option maxHeartbeats 20000000 in
theorem element_any (n : Int) (w : World) : Ret Tryz.prog 23 #[.int .i64 n] w (fun v w' => v = .bool (elB n) ∧ Sep w [] w') := by
 have S0 := Sep.refl w
 refine Ret.named fun R hR => ?_
 refine Ret.of_J (N := 9) [(0, .int .i64 n)] Tryz.func23 rfl rfl (Nat.le_of_ble_eq_true (by kernel_rfl)) (by kernel_rfl) ?_
 refine J.run 9 K23_0 [(5, .bool (decide (n ≥ (-1073741824)))), (0, .int .i64 n)] w (by kernel_rfl) ?_
 by_cases fk1 : n ≥ (-1073741824)
 rotate_left
 ·skip
  refine J.head (.bool false) (congrArg Value.bool (decide_eq_false fk1)) ?_
  refine J.run 5 K23_2 [(2, .bool false)] w (by kernel_rfl) ?_
  refine J.ret Tryz.f23 [.bool false] Tryz.func23 ⟨by kernel_rfl, trivial⟩ ?_
  refine hR _ _ ?_
  exact ⟨congrArg Value.bool (by rw [Bool.eq_iff_iff]; simp [elB]; omega), S0.nil⟩
 refine J.head (.bool true) (congrArg Value.bool (decide_eq_true fk1)) ?_
 refine J.run 5 K23_1 [(2, .bool (decide (n ≤ 1073741824)))] w (by kernel_rfl) ?_
 refine J.ret Tryz.f23 [.bool (decide (n ≤ 1073741824))] Tryz.func23 ⟨by kernel_rfl, trivial⟩ ?_
 refine hR _ _ ?_
 exact ⟨congrArg Value.bool (by rw [Bool.eq_iff_iff]; simp [elB]; omega), S0.nil⟩

theorem hb20 : HasBody Tryz.prog 20 := fun _ _ => by kernel_rfl
def K20_0 := adv 11 [] (bodyOf Tryz.f20)
def K20_1 := adv 10 [true] K20_0
def K20_2 := adv 5 [] K20_0
def K20_3 := adv 5 [true] K20_2
def K20_4 := adv 11 [false] K20_2
def K20_5 := adv 5 [] K20_4
def K20_6 := adv 7 [true] K20_5
def K20_7 := adv 6 [] (popK (popK K20_6))
def K20_8 := adv 2 [] (popK K20_7)
def K20_9 := adv 3 [] K20_8
def K20_10 := adv 4 [] K20_9
def K20_11 := adv 4 [] (popK (popK K20_10))
def K20_12 := adv 5 [true] K20_11
def K20_13 := adv 5 [false] K20_11
def K20_14 := adv 15 [false] K20_9
def K20_15 := adv 18 [true] K20_8
def K20_16 := adv 6 [false] K20_5
set_option maxRecDepth 20000 in
set_option maxHeartbeats 20000000 in
theorem axis_any (la : Option Addr) (len cap : Nat) (l : List Int) (w : World) (hI : Ints w la len l) (hlen : len ≤ 9223372036854775807) : Ret Tryz.prog 20 #[.slice la len cap] w (fun v w' => v = .bool (axisB l) ∧ Sep w [] w') := by
 have S0 := Sep.refl w
 refine Ret.named fun R hR => ?_
 refine Ret.of_J (N := 37) [(0, .slice la len cap)] Tryz.func20 rfl rfl (Nat.le_of_ble_eq_true (by kernel_rfl)) (by kernel_rfl) ?_
 have hll := hI.len_eq
 refine J.run 11 K20_0 [(8, .bool (decide ((len : Int) < 2))), (0, .slice la len cap)] w (by kernel_rfl) ?_
 by_cases fk1 : (len : Int) < 2
 ·skip
  refine J.head (.bool true) (congrArg Value.bool (decide_eq_true fk1)) ?_
  refine J.run 10 K20_1 [(2, .bool false)] w (by kernel_rfl) ?_
  refine J.ret Tryz.f20 [.bool false] Tryz.func20 ⟨by kernel_rfl, trivial⟩ ?_
  refine hR _ _ ?_
  exact ⟨congrArg Value.bool (axis_no (by omega)).symm, S0.nil⟩
 refine J.head (.bool false) (congrArg Value.bool (decide_eq_false fk1)) ?_
 refine J.run 5 K20_2 [(12, .bool (decide ((len : Int) > 32))), (0, .slice la len cap)] w (by kernel_rfl) ?_
 by_cases fk2 : (len : Int) > 32
 ·skip
  refine J.head (.bool true) (congrArg Value.bool (decide_eq_true fk2)) ?_
  refine J.run 5 K20_3 [(2, .bool false)] w (by kernel_rfl) ?_
  refine J.ret Tryz.f20 [.bool false] Tryz.func20 ⟨by kernel_rfl, trivial⟩ ?_
  refine hR _ _ ?_
  exact ⟨congrArg Value.bool (axis_no (by omega)).symm, S0.nil⟩
 refine J.head (.bool false) (congrArg Value.bool (decide_eq_false fk2)) ?_
 refine J.run 11 K20_4 [(15, .int .i64 0), (14, .int .i64 (len : Int)), (13, .slice la len cap), (0, .slice la len cap)] w (by kernel_rfl) ?_
 have L20_1 : ∀ (mm_ : Nat) (i : Int) (w1 : World), (0 ≤ i) → (i ≤ (len : Int)) → (∀ j, j < (i).toNat → nodeB l j = true) → Sep w [] w1 → ((len : Int) - i).toNat = mm_ → J Tryz.prog 20 37 R K20_4 [(15, .int .i64 i), (14, .int .i64 (len : Int)), (13, .slice la len cap), (0, .slice la len cap)] w1 := by
  intro mm1
  induction mm1 using Nat.strongRecOn with
  | _ mm1 ih1 =>
  intro i w1 h0 h1 hq S1 hm1
  refine J.run 5 K20_5 [(16, .bool (decide (i < (len : Int)))), (15, .int .i64 i), (14, .int .i64 (len : Int)), (13, .slice la len cap), (0, .slice la len cap)] w1 (by kernel_rfl) ?_
  by_cases fk3 : i < (len : Int)
  rotate_left
  ·skip
   refine J.head (.bool false) (congrArg Value.bool (decide_eq_false fk3)) ?_
   refine J.run 6 K20_16 [(2, .bool true)] w1 (by kernel_rfl) ?_
   refine J.ret Tryz.f20 [.bool true] Tryz.func20 ⟨by kernel_rfl, trivial⟩ ?_
   refine hR _ _ ?_
   exact ⟨congrArg Value.bool (axis_yes (by omega) (by omega) fun j hj => hq j (by omega)).symm, S1.nil⟩
  refine J.head (.bool true) (congrArg Value.bool (decide_eq_true fk3)) ?_
  refine J.run 7 K20_6 [(17, .int .i64 i), (15, .int .i64 i), (14, .int .i64 (len : Int)), (13, .slice la len cap), (0, .slice la len cap)] w1 (by kernel_rfl) ?_
  obtain ⟨p1, hp1, hc1⟩ := hI.at 0 (i).toNat (by omega)
  refine J.ok (OK.index 18 22 1 la p1 len (i).toNat i (p1.add (i).toNat) (by kernel_rfl) (by kernel_rfl) hp1 (by omega) (by omega) (by rw [Nat.mul_one])) ?_
  refine J.ok (OK.ldCell 19 3 (p1.add (i).toNat) (.int .i64 (l.getD (i).toNat 0)) (by kernel_rfl) (by kernel_rfl) (S1.cell hc1)) ?_
  refine J.run 6 K20_7 [(20, .int .i64 (l.getD (i).toNat 0)), (4, .int .i64 (l.getD (i).toNat 0)), (3, .int .i64 i), (15, .int .i64 i), (14, .int .i64 (len : Int)), (13, .slice la len cap), (0, .slice la len cap)] w1 (by kernel_rfl) ?_
  refine J.callF 21 23 #[.int .i64 (l.getD (i).toNat 0)] hb23 (by kernel_rfl) (element_any (l.getD (i).toNat 0) _) ?_
  rintro _ w2 ⟨rfl, T1⟩
  have S2 : Sep w [] w2 := S1.trans T1
  clear T1 S1
  refine J.run 2 K20_8 [(23, .bool (!(elB (l.getD (i).toNat 0)))), (4, .int .i64 (l.getD (i).toNat 0)), (3, .int .i64 i), (15, .int .i64 i), (14, .int .i64 (len : Int)), (13, .slice la len cap), (0, .slice la len cap)] w2 (by kernel_rfl) ?_
  rcases Bool.eq_false_or_eq_true (elB (l.getD (i).toNat 0)) with fk4 | fk4
  rotate_left
  ·skip
   refine J.head (.bool true) (congrArg Value.bool (by rw [fk4]; rfl)) ?_
   refine J.run 18 K20_15 [(2, .bool false)] w2 (by kernel_rfl) ?_
   refine J.ret Tryz.f20 [.bool false] Tryz.func20 ⟨by kernel_rfl, trivial⟩ ?_
   refine hR _ _ ?_
   exact ⟨congrArg Value.bool (axis_bad h0 (by omega) (node_no h0 (by first | exact .inl fk4 | exact .inr ⟨by omega, by omega⟩))).symm, S2.nil⟩
  refine J.head (.bool false) (congrArg Value.bool (by rw [fk4]; rfl)) ?_
  refine J.run 3 K20_9 [(26, .bool (decide (i > 0))), (23, .bool false), (4, .int .i64 (l.getD (i).toNat 0)), (3, .int .i64 i), (15, .int .i64 i), (14, .int .i64 (len : Int)), (13, .slice la len cap), (0, .slice la len cap)] w2 (by kernel_rfl) ?_
  by_cases fk5 : i > 0
  rotate_left
  ·skip
   refine J.head (.bool false) (congrArg Value.bool (decide_eq_false fk5)) ?_
   refine J.run 15 K20_14 [(36, .int .i64 (IntKind.wrap .i64 (i + 1))), (14, .int .i64 (len : Int)), (13, .slice la len cap), (0, .slice la len cap)] w2 (by kernel_rfl) ?_
   refine J.head (.int .i64 (i + 1)) (congrArg (Value.int .i64) (IntWalk.i64_in _ (by omega))) ?_
   refine J.run 3 K20_4 [(15, .int .i64 (i + 1)), (14, .int .i64 (len : Int)), (13, .slice la len cap), (0, .slice la len cap)] w2 (by kernel_rfl) ?_
   refine J.run 0 K20_4 [(15, .int .i64 (i + 1)), (14, .int .i64 (len : Int)), (13, .slice la len cap), (0, .slice la len cap)] w2 (by kernel_rfl) ?_
   exact ih1 _ (show ((len : Int) - (i + 1)).toNat < mm1 from by omega) (i + 1) w2 (by omega) (by omega) (all_step h0 hq (node_yes h0 fk4 (by omega))) S2 rfl
  refine J.head (.bool true) (congrArg Value.bool (decide_eq_true fk5)) ?_
  refine J.run 4 K20_10 [(30, .int .i64 (IntKind.wrap .i64 (i - 1))), (28, .slice la len cap), (27, .int .i64 (l.getD (i).toNat 0)), (26, .bool true), (23, .bool false), (15, .int .i64 i), (14, .int .i64 (len : Int)), (13, .slice la len cap), (0, .slice la len cap)] w2 (by kernel_rfl) ?_
  refine J.head (.int .i64 (i - 1)) (congrArg (Value.int .i64) (IntWalk.i64_in _ (by omega))) ?_
  obtain ⟨p2, hp2, hc2⟩ := hI.at 0 (i - 1).toNat (by omega)
  refine J.ok (OK.index 31 22 1 la p2 len (i - 1).toNat (i - 1) (p2.add (i - 1).toNat) (by kernel_rfl) (by kernel_rfl) hp2 (by omega) (by omega) (by rw [Nat.mul_one])) ?_
  refine J.ok (OK.ldCell 32 3 (p2.add (i - 1).toNat) (.int .i64 (l.getD (i - 1).toNat 0)) (by kernel_rfl) (by kernel_rfl) (S2.cell hc2)) ?_
  refine J.run 4 K20_11 [(35, .bool (decide ((l.getD (i).toNat 0) ≤ (l.getD (i - 1).toNat 0)))), (15, .int .i64 i), (14, .int .i64 (len : Int)), (13, .slice la len cap), (0, .slice la len cap)] w2 (by kernel_rfl) ?_
  by_cases fk6 : (l.getD (i).toNat 0) ≤ (l.getD (i - 1).toNat 0)
  ·skip
   refine J.head (.bool true) (congrArg Value.bool (decide_eq_true fk6)) ?_
   refine J.run 5 K20_12 [(2, .bool false)] w2 (by kernel_rfl) ?_
   refine J.ret Tryz.f20 [.bool false] Tryz.func20 ⟨by kernel_rfl, trivial⟩ ?_
   refine hR _ _ ?_
   exact ⟨congrArg Value.bool (axis_bad h0 (by omega) (node_no h0 (by first | exact .inl fk4 | exact .inr ⟨by omega, by omega⟩))).symm, S2.nil⟩
  refine J.head (.bool false) (congrArg Value.bool (decide_eq_false fk6)) ?_
  refine J.run 5 K20_13 [(36, .int .i64 (IntKind.wrap .i64 (i + 1))), (14, .int .i64 (len : Int)), (13, .slice la len cap), (0, .slice la len cap)] w2 (by kernel_rfl) ?_
  refine J.head (.int .i64 (i + 1)) (congrArg (Value.int .i64) (IntWalk.i64_in _ (by omega))) ?_
  refine J.run 3 K20_4 [(15, .int .i64 (i + 1)), (14, .int .i64 (len : Int)), (13, .slice la len cap), (0, .slice la len cap)] w2 (by kernel_rfl) ?_
  refine J.run 0 K20_4 [(15, .int .i64 (i + 1)), (14, .int .i64 (len : Int)), (13, .slice la len cap), (0, .slice la len cap)] w2 (by kernel_rfl) ?_
  exact ih1 _ (show ((len : Int) - (i + 1)).toNat < mm1 from by omega) (i + 1) w2 (by omega) (by omega) (all_step h0 hq (node_yes h0 fk4 (by omega))) S2 rfl
 exact L20_1 _ 0 w (by omega) (by omega) (by intro j hj; simp at hj) S0 rfl

theorem hb22 : HasBody Tryz.prog 22 := fun _ _ => by kernel_rfl
def K22_0 := adv 7 [] (bodyOf Tryz.f22)
def K22_1 := adv 3 [] (popK K22_0)
set_option maxRecDepth 20000 in
set_option maxHeartbeats 20000000 in
theorem farz_any (n : Int) (w : World) : Ret Tryz.prog 22 #[.int .i64 n] w (fun v w' => v = .bool (!elB n) ∧ Sep w [] w') := by
 have S0 := Sep.refl w
 refine Ret.named fun R hR => ?_
 refine Ret.of_J (N := 6) [(0, .int .i64 n)] Tryz.func22 rfl rfl (Nat.le_of_ble_eq_true (by kernel_rfl)) (by kernel_rfl) ?_
 refine J.run 7 K22_0 [(3, .int .i64 n)] w (by kernel_rfl) ?_
 refine J.callF 4 23 #[.int .i64 n] hb23 (by kernel_rfl) (element_any n _) ?_
 rintro _ w1 ⟨rfl, T1⟩
 have S1 : Sep w [] w1 := S0.trans T1
 clear T1
 refine J.run 3 K22_1 [(2, .bool (!(elB n)))] w1 (by kernel_rfl) ?_
 refine J.ret Tryz.f22 [.bool (!(elB n))] Tryz.func22 ⟨by kernel_rfl, trivial⟩ ?_
 refine hR _ _ ?_
 exact ⟨rfl, S1.nil⟩

theorem hb41 : HasBody Tryz.prog 41 := fun _ _ => by kernel_rfl
def K41_0 := adv 13 [] (bodyOf Tryz.f41)
def K41_1 := adv 5 [] K41_0
def K41_2 := adv 14 [true] K41_1
def K41_3 := adv 1 [] (popK (popK (popK K41_2)))
def K41_4 := adv 6 [true] K41_3
def K41_5 := adv 5 [false] K41_3
def K41_6 := adv 6 [false] K41_1
set_option maxRecDepth 20000 in
set_option maxHeartbeats 20000000 in
theorem indexI0 (la : Option Addr) (len cap : Nat) (l : List Int) (g : FuncId) (q : Int → Bool) (w : World) (hI : Ones (Value.int .i64) w la len l) (hlen : len ≤ 9223372036854775807) (hbg : HasBody Tryz.prog g) (hcall : ∀ (i : Nat) (w2 : World), i < l.length → Sep w [] w2 → Ret Tryz.prog g #[.int .i64 (l.getD i 0)] w2 (fun v w3 => v = .bool (q (l.getD i 0)) ∧ Sep w2 [] w3)) : Ret Tryz.prog 41 #[.slice la len cap, .func (.func g) #[] #[]] w (fun v w' => v = .int .i64 (indexF q l) ∧ Sep w [] w') := by
 have S0 := Sep.refl w
 refine Ret.named fun R hR => ?_
 refine Ret.of_J (N := 19) [(0, .slice la len cap), (1, .func (.func g) #[] #[])] Tryz.func41 rfl rfl (Nat.le_of_ble_eq_true (by kernel_rfl)) (by kernel_rfl) ?_
 refine J.run 13 K41_0 [(8, .int .i64 0), (7, .int .i64 (len : Int)), (0, .slice la len cap), (1, .func (.func g) #[] #[])] w (by kernel_rfl) ?_
 have L41_1 : ∀ (mm_ : Nat) (i : Int) (w1 : World), (0 ≤ i) → (i ≤ (len : Int)) → (∀ j, j < (i).toNat → q (l.getD j 0) = false) → Sep w [] w1 → ((len : Int) - i).toNat = mm_ → J Tryz.prog 41 19 R K41_0 [(8, .int .i64 i), (7, .int .i64 (len : Int)), (0, .slice la len cap), (1, .func (.func g) #[] #[])] w1 := by
  intro mm1
  induction mm1 using Nat.strongRecOn with
  | _ mm1 ih1 =>
  intro i w1 h0 h1 hq S1 hm1
  refine J.run 5 K41_1 [(9, .bool (decide (i < (len : Int)))), (8, .int .i64 i), (7, .int .i64 (len : Int)), (0, .slice la len cap), (1, .func (.func g) #[] #[])] w1 (by kernel_rfl) ?_
  by_cases fk1 : i < (len : Int)
  rotate_left
  ·skip
   refine J.head (.bool false) (congrArg Value.bool (decide_eq_false fk1)) ?_
   refine J.run 6 K41_6 [(4, .int .i64 (-1))] w1 (by kernel_rfl) ?_
   refine J.ret Tryz.f41 [.int .i64 (-1)] Tryz.func41 ⟨by kernel_rfl, trivial⟩ ?_
   refine hR _ _ ?_
   exact ⟨by rw [tup_one, indexF_none 0 fun j hj => hq j (by have := hI.len_eq; omega)], S1.nil⟩
  refine J.head (.bool true) (congrArg Value.bool (decide_eq_true fk1)) ?_
  refine J.run 14 K41_2 [(13, .int .i64 i), (12, .slice la len cap), (11, .func (.func g) #[] #[]), (5, .int .i64 i), (8, .int .i64 i), (7, .int .i64 (len : Int)), (0, .slice la len cap), (1, .func (.func g) #[] #[])] w1 (by kernel_rfl) ?_
  obtain ⟨p1, hp1, hc1⟩ := hI.at 0 (i).toNat (by omega)
  refine J.ok (OK.index 14 22 1 la p1 len (i).toNat i (p1.add (i).toNat) (by kernel_rfl) (by kernel_rfl) hp1 (by omega) (by omega) (by rw [Nat.mul_one])) ?_
  refine J.ok (OK.ldCell 15 3 (p1.add (i).toNat) (.int .i64 (l.getD (i).toNat 0)) (by kernel_rfl) (by kernel_rfl) (S1.cell hc1)) ?_
  refine J.callF 16 g #[.int .i64 (l.getD (i).toNat 0)] hbg (by kernel_rfl) (hcall (i).toNat w1 (by have := hI.len_eq; omega) S1.nil) ?_
  rintro _ w2 ⟨rfl, T1⟩
  have S2 : Sep w [] w2 := S1.trans T1
  clear T1 S1
  refine J.run 1 K41_3 [(16, .bool (q (l.getD (i).toNat 0))), (5, .int .i64 i), (8, .int .i64 i), (7, .int .i64 (len : Int)), (0, .slice la len cap), (1, .func (.func g) #[] #[])] w2 (by kernel_rfl) ?_
  rcases Bool.eq_false_or_eq_true (q (l.getD (i).toNat 0)) with fk2 | fk2
  ·skip
   refine J.head (.bool true) (congrArg Value.bool fk2) ?_
   refine J.run 6 K41_4 [(4, .int .i64 i)] w2 (by kernel_rfl) ?_
   refine J.ret Tryz.f41 [.int .i64 i] Tryz.func41 ⟨by kernel_rfl, trivial⟩ ?_
   refine hR _ _ ?_
   exact ⟨by rw [tup_one, indexF_some 0 i.toNat (by have := hI.len_eq; omega) hq fk2, Int.toNat_of_nonneg h0], S2.nil⟩
  refine J.head (.bool false) (congrArg Value.bool fk2) ?_
  refine J.run 5 K41_5 [(18, .int .i64 (IntKind.wrap .i64 (i + 1))), (7, .int .i64 (len : Int)), (0, .slice la len cap), (1, .func (.func g) #[] #[])] w2 (by kernel_rfl) ?_
  refine J.head (.int .i64 (i + 1)) (congrArg (Value.int .i64) (IntWalk.i64_in _ (by omega))) ?_
  refine J.run 3 K41_0 [(8, .int .i64 (i + 1)), (7, .int .i64 (len : Int)), (0, .slice la len cap), (1, .func (.func g) #[] #[])] w2 (by kernel_rfl) ?_
  refine J.run 0 K41_0 [(8, .int .i64 (i + 1)), (7, .int .i64 (len : Int)), (0, .slice la len cap), (1, .func (.func g) #[] #[])] w2 (by kernel_rfl) ?_
  exact ih1 _ (show ((len : Int) - (i + 1)).toNat < mm1 from by omega) (i + 1) w2 (by omega) (by omega) (by intro j hj; by_cases e : j = i.toNat; (subst e; exact fk2); exact hq j (by omega)) S2 rfl
 exact L41_1 _ 0 w (by omega) (by omega) (by intro j hj; simp at hj) S0 rfl

theorem hb21 : HasBody Tryz.prog 21 := fun _ _ => by kernel_rfl
def K21_0 := adv 8 [] (bodyOf Tryz.f21)
def K21_1 := adv 3 [] (popK K21_0)
set_option maxRecDepth 20000 in
set_option maxHeartbeats 20000000 in
theorem containsI0 (la : Option Addr) (len cap : Nat) (l : List Int) (g : FuncId) (q : Int → Bool) (w : World) (hI : Ones (Value.int .i64) w la len l) (hlen : len ≤ 9223372036854775807) (hbg : HasBody Tryz.prog g) (hcall : ∀ (i : Nat) (w2 : World), i < l.length → Sep w [] w2 → Ret Tryz.prog g #[.int .i64 (l.getD i 0)] w2 (fun v w3 => v = .bool (q (l.getD i 0)) ∧ Sep w2 [] w3)) : Ret Tryz.prog 21 #[.slice la len cap, .func (.func g) #[] #[]] w (fun v w' => v = .bool (l.any q) ∧ Sep w [] w') := by
 have S0 := Sep.refl w
 refine Ret.named fun R hR => ?_
 refine Ret.of_J (N := 9) [(0, .slice la len cap), (1, .func (.func g) #[] #[])] Tryz.func21 rfl rfl (Nat.le_of_ble_eq_true (by kernel_rfl)) (by kernel_rfl) ?_
 refine J.run 8 K21_0 [(6, .func (.func g) #[] #[]), (5, .slice la len cap)] w (by kernel_rfl) ?_
 refine J.callF 7 41 #[.slice la len cap, .func (.func g) #[] #[]] hb41 (by kernel_rfl) (indexI0 la len cap l g  q _ (hI.sep S0) (by first | omega | (simp; omega)) hbg (hcall)) ?_
 rintro _ w1 ⟨rfl, T1⟩
 have S1 : Sep w [] w1 := S0.trans T1
 clear T1
 refine J.run 3 K21_1 [(4, .bool (decide ((indexF q l) ≥ 0)))] w1 (by kernel_rfl) ?_
 refine J.ret Tryz.f21 [.bool (decide ((indexF q l) ≥ 0))] Tryz.func21 ⟨by kernel_rfl, trivial⟩ ?_
 refine hR _ _ ?_
 exact ⟨congrArg Value.bool (by first | exact indexF_nonneg), S1.nil⟩

theorem hb8 : HasBody Tryz.prog 8 := fun _ _ => by kernel_rfl
def K8_0 := adv 2 [] (bodyOf Tryz.f8)
def K8_1 := adv 6 [] (popK K8_0)
def K8_2 := adv 2 [] (popK (popK K8_1))
def K8_3 := adv 1 [] K8_2
def K8_4 := adv 3 [] (popK (popK K8_3))
def K8_5 := adv 1 [] K8_4
def K8_6 := adv 2 [] (popK K8_5)
def K8_7 := adv 4 [] (popK K8_6)
def K8_8 := adv 6 [false] K8_7
def K8_9 := adv 5 [] (popK K8_8)
def K8_10 := adv 5 [] K8_9
def K8_11 := adv 6 [true] K8_10
def K8_12 := adv 7 [] (popK (popK K8_11))
def K8_13 := adv 3 [] (popK K8_12)
def K8_14 := adv 1 [] K8_13
def K8_15 := adv 2 [] (popK K8_14)
def K8_16 := adv 5 [true] K8_15
def K8_17 := adv 5 [false] K8_15
def K8_18 := adv 9 [true] K8_13
def K8_19 := adv 6 [false] K8_10
def K8_20 := adv 5 [true] K8_7
def K8_21 := adv 14 [true] K8_4
def K8_22 := adv 20 [true] K8_2
set_option maxRecDepth 20000 in
set_option maxHeartbeats 20000000 in
theorem valid_any (m : Mp) (w : World) (hm : mpQ w m) : Ret Tryz.prog 8 #[.agg #[.slice m.gX_a m.gX_n m.gX_c, .slice m.gY_a m.gY_n m.gY_c, .slice m.gZ_a m.gZ_n m.gZ_c]] w (fun v w' => v = .bool (validM m) ∧ Sep w [] w') := by
 have S0 := Sep.refl w
 refine Ret.named fun R hR => ?_
 refine Ret.of_J (N := 42) [(0, .agg #[.slice m.gX_a m.gX_n m.gX_c, .slice m.gY_a m.gY_n m.gY_c, .slice m.gZ_a m.gZ_n m.gZ_c])] Tryz.func8 rfl rfl (Nat.le_of_ble_eq_true (by kernel_rfl)) (by kernel_rfl) ?_
 obtain ⟨q1, q2, q3, q4, q5, q6, q7, q8, q9, _⟩ := id hm
 have ql1 := q2.len_eq
 have ql2 := q5.len_eq
 have ql3 := q8.len_eq
 refine J.run 2 K8_0 [(0, .agg #[.slice m.gX_a m.gX_n m.gX_c, .slice m.gY_a m.gY_n m.gY_c, .slice m.gZ_a m.gZ_n m.gZ_c])] w (by kernel_rfl) ?_
 refine J.new S0 1 [.slice m.gX_a m.gX_n m.gX_c, .slice m.gY_a m.gY_n m.gY_c, .slice m.gZ_a m.gZ_n m.gZ_c] 25 (by kernel_rfl) ?_
 intro b1 w1 S1
 refine J.run 6 K8_1 [(5, .pointer (some ⟨b1, 0, none⟩)), (1, .pointer (some ⟨b1, 0, none⟩))] w1 (by kernel_rfl) ?_
 refine J.ok (OK.ldBox S1 0 6 22 0 (.slice m.gX_a m.gX_n m.gX_c) (by kernel_rfl) rfl (by kernel_rfl)) ?_
 refine J.callF 7 20 #[.slice m.gX_a m.gX_n m.gX_c] hb20 (by kernel_rfl) (axis_any m.gX_a m.gX_n m.gX_c m.gX_l _ (q2.sep S1) (by first | omega | (simp; omega))) ?_
 rintro _ w2 ⟨rfl, T1⟩
 have S2 : Sep w [box b1 [.slice m.gX_a m.gX_n m.gX_c, .slice m.gY_a m.gY_n m.gY_c, .slice m.gZ_a m.gZ_n m.gZ_c] 25] w2 := S1.trans T1
 clear T1 S1
 refine J.run 2 K8_2 [(9, .bool (!(axisB m.gX_l))), (1, .pointer (some ⟨b1, 0, none⟩))] w2 (by kernel_rfl) ?_
 rcases Bool.eq_false_or_eq_true (axisB m.gX_l) with fk1 | fk1
 rotate_left
 ·skip
  refine J.head (.bool true) (congrArg Value.bool (by rw [fk1]; rfl)) ?_
  refine J.run 20 K8_22 [(2, .bool false)] w2 (by kernel_rfl) ?_
  refine J.ret Tryz.f8 [.bool false] Tryz.func8 ⟨by kernel_rfl, trivial⟩ ?_
  refine hR _ _ ?_
  exact ⟨congrArg Value.bool (valid_no (by first | exact .inl fk1 | exact .inr (.inl fk1) | exact .inr (.inr (by omega)))).symm, S2.nil⟩

 refine J.head (.bool false) (congrArg Value.bool (by rw [fk1]; rfl)) ?_
 refine J.run 1 K8_3 [(10, .pointer (some ⟨b1, 1, none⟩)), (9, .bool false), (1, .pointer (some ⟨b1, 0, none⟩))] w2 (by kernel_rfl) ?_
 refine J.ok (OK.ldBox S2 0 11 22 1 (.slice m.gY_a m.gY_n m.gY_c) (by kernel_rfl) rfl (by kernel_rfl)) ?_
 refine J.callF 12 20 #[.slice m.gY_a m.gY_n m.gY_c] hb20 (by kernel_rfl) (axis_any m.gY_a m.gY_n m.gY_c m.gY_l _ (q5.sep S2) (by first | omega | (simp; omega))) ?_
 rintro _ w3 ⟨rfl, T2⟩
 have S3 : Sep w [box b1 [.slice m.gX_a m.gX_n m.gX_c, .slice m.gY_a m.gY_n m.gY_c, .slice m.gZ_a m.gZ_n m.gZ_c] 25] w3 := S2.trans T2
 clear T2 S2
 refine J.run 3 K8_4 [(15, .bool (!(axisB m.gY_l))), (1, .pointer (some ⟨b1, 0, none⟩))] w3 (by kernel_rfl) ?_
 rcases Bool.eq_false_or_eq_true (axisB m.gY_l) with fk2 | fk2
 rotate_left
 ·skip
  refine J.head (.bool true) (congrArg Value.bool (by rw [fk2]; rfl)) ?_
  refine J.run 14 K8_21 [(2, .bool false)] w3 (by kernel_rfl) ?_
  refine J.ret Tryz.f8 [.bool false] Tryz.func8 ⟨by kernel_rfl, trivial⟩ ?_
  refine hR _ _ ?_
  exact ⟨congrArg Value.bool (valid_no (by first | exact .inl fk2 | exact .inr (.inl fk2) | exact .inr (.inr (by omega)))).symm, S3.nil⟩
 refine J.head (.bool false) (congrArg Value.bool (by rw [fk2]; rfl)) ?_
 refine J.run 1 K8_5 [(16, .pointer (some ⟨b1, 2, none⟩)), (15, .bool false), (1, .pointer (some ⟨b1, 0, none⟩))] w3 (by kernel_rfl) ?_
 refine J.ok (OK.ldBox S3 0 17 23 2 (.slice m.gZ_a m.gZ_n m.gZ_c) (by kernel_rfl) rfl (by kernel_rfl)) ?_
 refine J.run 2 K8_6 [(19, .pointer (some ⟨b1, 0, none⟩)), (18, .int .i64 (m.gZ_n : Int)), (15, .bool false), (1, .pointer (some ⟨b1, 0, none⟩))] w3 (by kernel_rfl) ?_
 refine J.ok (OK.ldBox S3 0 20 22 0 (.slice m.gX_a m.gX_n m.gX_c) (by kernel_rfl) rfl (by kernel_rfl)) ?_
 refine J.run 4 K8_7 [(23, .bool ((m.gZ_n : Int) != (m.gX_n : Int))), (1, .pointer (some ⟨b1, 0, none⟩))] w3 (by kernel_rfl) ?_
 by_cases fk3 : (m.gZ_n : Int) = (m.gX_n : Int)
 rotate_left
 ·skip
  refine J.head (.bool true) (congrArg Value.bool (bne_iff_ne.2 fk3)) ?_
  refine J.run 5 K8_20 [(2, .bool false)] w3 (by kernel_rfl) ?_
  refine J.ret Tryz.f8 [.bool false] Tryz.func8 ⟨by kernel_rfl, trivial⟩ ?_
  refine hR _ _ ?_
  exact ⟨congrArg Value.bool (valid_no (by first | exact .inl fk2 | exact .inr (.inl fk2) | exact .inr (.inr (by omega)))).symm, S3.nil⟩
 refine J.head (.bool false) (congrArg Value.bool (bne_eq_false_iff_eq.2 fk3)) ?_
 refine J.run 6 K8_8 [(24, .pointer (some ⟨b1, 2, none⟩)), (1, .pointer (some ⟨b1, 0, none⟩))] w3 (by kernel_rfl) ?_
 refine J.ok (OK.ldBox S3 0 25 23 2 (.slice m.gZ_a m.gZ_n m.gZ_c) (by kernel_rfl) rfl (by kernel_rfl)) ?_
 refine J.run 5 K8_9 [(27, .int .i64 0), (26, .int .i64 (m.gZ_n : Int)), (25, .slice m.gZ_a m.gZ_n m.gZ_c), (1, .pointer (some ⟨b1, 0, none⟩))] w3 (by kernel_rfl) ?_
 have L8_1 : ∀ (mm_ : Nat) (i : Int) (w4 : World), (0 ≤ i) → (i ≤ (m.gZ_n : Int)) → (∀ j, j < (i).toNat → rowB m.gY_n (m.gZ_l.getD j rw0) = true) → Sep w [box b1 [.slice m.gX_a m.gX_n m.gX_c, .slice m.gY_a m.gY_n m.gY_c, .slice m.gZ_a m.gZ_n m.gZ_c] 25] w4 → ((m.gZ_n : Int) - i).toNat = mm_ → J Tryz.prog 8 42 R K8_9 [(27, .int .i64 i), (26, .int .i64 (m.gZ_n : Int)), (25, .slice m.gZ_a m.gZ_n m.gZ_c), (1, .pointer (some ⟨b1, 0, none⟩))] w4 := by
  intro mm1
  induction mm1 using Nat.strongRecOn with
  | _ mm1 ih1 =>
  intro i w4 h0 h1 hq S4 hm1
  refine J.run 5 K8_10 [(28, .bool (decide (i < (m.gZ_n : Int)))), (27, .int .i64 i), (26, .int .i64 (m.gZ_n : Int)), (25, .slice m.gZ_a m.gZ_n m.gZ_c), (1, .pointer (some ⟨b1, 0, none⟩))] w4 (by kernel_rfl) ?_
  by_cases fk4 : i < (m.gZ_n : Int)
  rotate_left
  ·skip
   refine J.head (.bool false) (congrArg Value.bool (decide_eq_false fk4)) ?_
   refine J.run 6 K8_19 [(2, .bool true)] w4 (by kernel_rfl) ?_
   refine J.ret Tryz.f8 [.bool true] Tryz.func8 ⟨by kernel_rfl, trivial⟩ ?_
   refine hR _ _ ?_
   exact ⟨congrArg Value.bool (valid_yes fk1 fk2 (by omega) fun j hj => hq j (by omega)).symm, S4.nil⟩
  refine J.head (.bool true) (congrArg Value.bool (decide_eq_true fk4)) ?_
  refine J.run 6 K8_11 [(27, .int .i64 i), (26, .int .i64 (m.gZ_n : Int)), (25, .slice m.gZ_a m.gZ_n m.gZ_c), (1, .pointer (some ⟨b1, 0, none⟩))] w4 (by kernel_rfl) ?_
  obtain ⟨p1, hp1, hc1⟩ := q8.at rw0 (i).toNat (by omega)
  have hel1 := getD_Q q9 rw0 (n := (i).toNat) (by have := q8.len_eq; omega)
  obtain ⟨q10, q11, q12, _⟩ := id hel1
  have ql4 := q11.len_eq
  refine J.ok (OK.index 29 23 1 m.gZ_a p1 m.gZ_n (i).toNat i (p1.add ((i).toNat * 1)) (by kernel_rfl) (by kernel_rfl) hp1 (by omega) (by omega) rfl) ?_
  refine J.ok (OK.ldCell 30 22 (p1.add ((i).toNat * 1)) (.slice ((m.gZ_l.getD (i).toNat rw0).gS_a) ((m.gZ_l.getD (i).toNat rw0).gS_n) ((m.gZ_l.getD (i).toNat rw0).gS_c)) (by kernel_rfl) (by kernel_rfl) (S4.cell (cell_zero (hc1 0 _ rfl)))) ?_
  refine J.run 7 K8_12 [(33, .pointer (some ⟨b1, 1, none⟩)), (32, .int .i64 ((m.gZ_l.getD (i).toNat rw0).gS_n : Int)), (4, .slice ((m.gZ_l.getD (i).toNat rw0).gS_a) ((m.gZ_l.getD (i).toNat rw0).gS_n) ((m.gZ_l.getD (i).toNat rw0).gS_c)), (27, .int .i64 i), (26, .int .i64 (m.gZ_n : Int)), (25, .slice m.gZ_a m.gZ_n m.gZ_c), (1, .pointer (some ⟨b1, 0, none⟩))] w4 (by kernel_rfl) ?_
  refine J.ok (OK.ldBox S4 0 34 22 1 (.slice m.gY_a m.gY_n m.gY_c) (by kernel_rfl) rfl (by kernel_rfl)) ?_
  refine J.run 3 K8_13 [(37, .bool (((m.gZ_l.getD (i).toNat rw0).gS_n : Int) != (m.gY_n : Int))), (4, .slice ((m.gZ_l.getD (i).toNat rw0).gS_a) ((m.gZ_l.getD (i).toNat rw0).gS_n) ((m.gZ_l.getD (i).toNat rw0).gS_c)), (27, .int .i64 i), (26, .int .i64 (m.gZ_n : Int)), (25, .slice m.gZ_a m.gZ_n m.gZ_c), (1, .pointer (some ⟨b1, 0, none⟩))] w4 (by kernel_rfl) ?_
  by_cases fk5 : ((m.gZ_l.getD (i).toNat rw0).gS_n : Int) = (m.gY_n : Int)
  rotate_left
  ·skip
   refine J.head (.bool true) (congrArg Value.bool (bne_iff_ne.2 fk5)) ?_
   refine J.run 9 K8_18 [(2, .bool false)] w4 (by kernel_rfl) ?_
   refine J.ret Tryz.f8 [.bool false] Tryz.func8 ⟨by kernel_rfl, trivial⟩ ?_
   refine hR _ _ ?_
   exact ⟨congrArg Value.bool (valid_bad h0 (by omega) (row_no (.inl (by omega)))).symm, S4.nil⟩
  refine J.head (.bool false) (congrArg Value.bool (bne_eq_false_iff_eq.2 fk5)) ?_
  refine J.run 1 K8_14 [(38, .slice ((m.gZ_l.getD (i).toNat rw0).gS_a) ((m.gZ_l.getD (i).toNat rw0).gS_n) ((m.gZ_l.getD (i).toNat rw0).gS_c)), (37, .bool false), (27, .int .i64 i), (26, .int .i64 (m.gZ_n : Int)), (25, .slice m.gZ_a m.gZ_n m.gZ_c), (1, .pointer (some ⟨b1, 0, none⟩))] w4 (by kernel_rfl) ?_
  refine J.callF 39 21 #[.slice ((m.gZ_l.getD (i).toNat rw0).gS_a) ((m.gZ_l.getD (i).toNat rw0).gS_n) ((m.gZ_l.getD (i).toNat rw0).gS_c), .func (.func 22) #[] #[]] hb21 (by kernel_rfl) (containsI0 ((m.gZ_l.getD (i).toNat rw0).gS_a) ((m.gZ_l.getD (i).toNat rw0).gS_n) ((m.gZ_l.getD (i).toNat rw0).gS_c) ((m.gZ_l.getD (i).toNat rw0).gS_l) 22  (fun x => !elB x) _ (q11.sep S4) (by first | omega | (simp; omega)) hb22 (fun i_ w_ hi_ S_ => farz_any _ w_)) ?_
  rintro _ w5 ⟨rfl, T3⟩
  have S5 : Sep w [box b1 [.slice m.gX_a m.gX_n m.gX_c, .slice m.gY_a m.gY_n m.gY_c, .slice m.gZ_a m.gZ_n m.gZ_c] 25] w5 := S4.trans T3
  clear T3 S4
  refine J.run 2 K8_15 [(40, .bool (List.any ((m.gZ_l.getD (i).toNat rw0).gS_l) (fun x => !elB x))), (27, .int .i64 i), (26, .int .i64 (m.gZ_n : Int)), (25, .slice m.gZ_a m.gZ_n m.gZ_c), (1, .pointer (some ⟨b1, 0, none⟩))] w5 (by kernel_rfl) ?_
  rcases Bool.eq_false_or_eq_true (List.any ((m.gZ_l.getD (i).toNat rw0).gS_l) (fun x => !elB x)) with fk6 | fk6
  ·skip
   refine J.head (.bool true) (congrArg Value.bool fk6) ?_
   refine J.run 5 K8_16 [(2, .bool false)] w5 (by kernel_rfl) ?_
   refine J.ret Tryz.f8 [.bool false] Tryz.func8 ⟨by kernel_rfl, trivial⟩ ?_
   refine hR _ _ ?_
   exact ⟨congrArg Value.bool (valid_bad h0 (by omega) (row_no (.inr (by rw [any_not_all] at fk6; simpa using fk6)))).symm, S5.nil⟩
  refine J.head (.bool false) (congrArg Value.bool fk6) ?_
  refine J.run 5 K8_17 [(41, .int .i64 (IntKind.wrap .i64 (i + 1))), (26, .int .i64 (m.gZ_n : Int)), (25, .slice m.gZ_a m.gZ_n m.gZ_c), (1, .pointer (some ⟨b1, 0, none⟩))] w5 (by kernel_rfl) ?_
  refine J.head (.int .i64 (i + 1)) (congrArg (Value.int .i64) (IntWalk.i64_in _ (by omega))) ?_
  refine J.run 3 K8_9 [(27, .int .i64 (i + 1)), (26, .int .i64 (m.gZ_n : Int)), (25, .slice m.gZ_a m.gZ_n m.gZ_c), (1, .pointer (some ⟨b1, 0, none⟩))] w5 (by kernel_rfl) ?_
  refine J.run 0 K8_9 [(27, .int .i64 (i + 1)), (26, .int .i64 (m.gZ_n : Int)), (25, .slice m.gZ_a m.gZ_n m.gZ_c), (1, .pointer (some ⟨b1, 0, none⟩))] w5 (by kernel_rfl) ?_
  exact ih1 _ (show ((m.gZ_n : Int) - (i + 1)).toNat < mm1 from by omega) (i + 1) w5 (by omega) (by omega) (all_step h0 hq (row_yes (by omega) (by have h_ := fk6; rw [any_not_all] at h_; simpa using h_))) S5 rfl
 exact L8_1 _ 0 w3 (by omega) (by omega) (by intro j hj; simp at hj) S3 rfl
/-- each element is at least the one before it in X -/
def risesM (m : Mp) : Bool := validM m && (List.range (m.gX_n - 1)).all fun i => (List.range m.gY_n).all fun j => decide (zF m i j ≤ zF m (i + 1) j)
theorem rises_invalid {m : Mp} (h : validM m = false) : risesM m = false := by unfold risesM; rw [h]; rfl
theorem rises_bad {m : Mp} {i j : Int} (h0 : 1 ≤ i) (hi : i < (m.gX_n : Int)) (j0 : 0 ≤ j) (hj : j < (m.gY_n : Int)) (h : zF m i.toNat j.toNat < zF m (i - 1).toNat j.toNat) : risesM m = false := by
  unfold risesM
  rw [all_range_false (j := (i - 1).toNat) (by omega) (all_range_false (j := j.toNat) (by omega) (decide_eq_false (by rw [show (i - 1).toNat + 1 = i.toNat by omega]; omega))), Bool.and_false]
theorem rises_yes {m : Mp} (hv : validM m = true) (h : ∀ i, i + 1 < m.gX_n → ∀ j, j < m.gY_n → zF m i j ≤ zF m (i + 1) j) : risesM m = true := by
  unfold risesM
  rw [hv, Bool.true_and]
  exact all_range_true fun i hi => all_range_true fun j hj => decide_eq_true (h i (by omega) j hj)
theorem rise_step {m : Mp} {i : Int} (h0 : 1 ≤ i) (hq : ∀ a, a + 1 < i.toNat → ∀ j, j < m.gY_n → zF m a j ≤ zF m (a + 1) j) (h : ∀ j, j < m.gY_n → zF m (i - 1).toNat j ≤ zF m i.toNat j) : ∀ a, a + 1 < (i + 1).toNat → ∀ j, j < m.gY_n → zF m a j ≤ zF m (a + 1) j := by
  intro a ha j hj
  by_cases e : a + 1 = i.toNat
  · have := h j hj
    rw [← e, show (i - 1).toNat = a by omega] at this; exact this
  · exact hq a (by omega) j hj
theorem hb13 : HasBody Tryz.prog 13 := fun _ _ => by kernel_rfl
def K13_0 := adv 2 [] (bodyOf Tryz.f13)
def K13_1 := adv 5 [] (popK K13_0)
def K13_2 := adv 2 [] (popK (popK K13_1))
def K13_3 := adv 9 [false] K13_2
def K13_4 := adv 5 [] K13_3
def K13_5 := adv 3 [] (popK K13_4)
def K13_6 := adv 7 [true] K13_5
def K13_7 := adv 5 [] (popK K13_6)
def K13_8 := adv 5 [] K13_7
def K13_9 := adv 10 [true] K13_8
def K13_10 := adv 5 [true] (rRest K13_9)
def K13_11 := adv 5 [false] (rRest K13_9)
def K13_12 := adv 6 [false] K13_8
def K13_13 := adv 6 [false] K13_5
def K13_14 := adv 5 [true] K13_2
set_option maxRecDepth 20000 in
set_option maxHeartbeats 20000000 in
theorem rising_any (m : Mp) (w : World) (hm : mpQ w m) : Ret Tryz.prog 13 #[.agg #[.slice m.gX_a m.gX_n m.gX_c, .slice m.gY_a m.gY_n m.gY_c, .slice m.gZ_a m.gZ_n m.gZ_c]] w (fun v w' => v = .bool (risesM m) ∧ Sep w [] w') := by
 have S0 := Sep.refl w
 refine Ret.named fun R hR => ?_
 refine Ret.of_J (N := 40) [(0, .agg #[.slice m.gX_a m.gX_n m.gX_c, .slice m.gY_a m.gY_n m.gY_c, .slice m.gZ_a m.gZ_n m.gZ_c])] Tryz.func13 rfl rfl (Nat.le_of_ble_eq_true (by kernel_rfl)) (by kernel_rfl) ?_
 obtain ⟨q1, q2, q3, q4, q5, q6, q7, q8, q9, _⟩ := id hm
 have ql1 := q2.len_eq
 have ql2 := q5.len_eq
 have ql3 := q8.len_eq
 refine J.run 2 K13_0 [(0, .agg #[.slice m.gX_a m.gX_n m.gX_c, .slice m.gY_a m.gY_n m.gY_c, .slice m.gZ_a m.gZ_n m.gZ_c])] w (by kernel_rfl) ?_
 refine J.new S0 1 [.slice m.gX_a m.gX_n m.gX_c, .slice m.gY_a m.gY_n m.gY_c, .slice m.gZ_a m.gZ_n m.gZ_c] 25 (by kernel_rfl) ?_
 intro b1 w1 S1
 refine J.run 5 K13_1 [(1, .pointer (some ⟨b1, 0, none⟩))] w1 (by kernel_rfl) ?_
 refine J.ok (OK.ldBox S1 0 5 25 0 (.agg #[.slice m.gX_a m.gX_n m.gX_c, .slice m.gY_a m.gY_n m.gY_c, .slice m.gZ_a m.gZ_n m.gZ_c]) (by kernel_rfl) rfl (by kernel_rfl)) ?_
 refine J.callF 6 8 #[.agg #[.slice m.gX_a m.gX_n m.gX_c, .slice m.gY_a m.gY_n m.gY_c, .slice m.gZ_a m.gZ_n m.gZ_c]] hb8 (by kernel_rfl) (valid_any m _ (mpQ_sep hm S1)) ?_
 rintro _ w2 ⟨rfl, T1⟩
 have S2 : Sep w [box b1 [.slice m.gX_a m.gX_n m.gX_c, .slice m.gY_a m.gY_n m.gY_c, .slice m.gZ_a m.gZ_n m.gZ_c] 25] w2 := S1.trans T1
 clear T1 S1
 refine J.run 2 K13_2 [(7, .bool (!(validM m))), (1, .pointer (some ⟨b1, 0, none⟩))] w2 (by kernel_rfl) ?_
 rcases Bool.eq_false_or_eq_true (validM m) with fk1 | fk1
 rotate_left
 ·skip
  refine J.head (.bool true) (congrArg Value.bool (by rw [fk1]; rfl)) ?_
  refine J.run 5 K13_14 [(2, .bool false)] w2 (by kernel_rfl) ?_
  refine J.ret Tryz.f13 [.bool false] Tryz.func13 ⟨by kernel_rfl, trivial⟩ ?_
  refine hR _ _ ?_
  exact ⟨congrArg Value.bool (rises_invalid fk1).symm, S2.nil⟩
 refine J.head (.bool false) (congrArg Value.bool (by rw [fk1]; rfl)) ?_
 obtain ⟨hv1, hv2, hv3, hv4⟩ := valid_facts fk1
 obtain ⟨hx1, hx2, hx3⟩ := axis_facts hv1
 obtain ⟨hy1, hy2, hy3⟩ := axis_facts hv2
 refine J.run 9 K13_3 [(3, .int .i64 1), (1, .pointer (some ⟨b1, 0, none⟩))] w2 (by kernel_rfl) ?_
 have L13_1 : ∀ (mm_ : Nat) (i : Int) (w3 : World), (1 ≤ i) → (i ≤ (m.gX_n : Int)) → (∀ a, a + 1 < (i).toNat → ∀ j, j < m.gY_n → zF m a j ≤ zF m (a + 1) j) → Sep w [box b1 [.slice m.gX_a m.gX_n m.gX_c, .slice m.gY_a m.gY_n m.gY_c, .slice m.gZ_a m.gZ_n m.gZ_c] 25] w3 → ((m.gX_n : Int) - i).toNat = mm_ → J Tryz.prog 13 40 R K13_3 [(3, .int .i64 i), (1, .pointer (some ⟨b1, 0, none⟩))] w3 := by
  intro mm1
  induction mm1 using Nat.strongRecOn with
  | _ mm1 ih1 =>
  intro i w3 h0 h1 hq S3 hm1
  have hw1 : i < (m.gX_n : Int) → _ := fun h => hv4 i.toNat (by omega)
  have hw2 : i < (m.gX_n : Int) → _ := fun h => hv4 (i - 1).toNat (by omega)
  refine J.run 5 K13_4 [(9, .pointer (some ⟨b1, 2, none⟩)), (8, .int .i64 i), (3, .int .i64 i), (1, .pointer (some ⟨b1, 0, none⟩))] w3 (by kernel_rfl) ?_
  refine J.ok (OK.ldBox S3 0 10 23 2 (.slice m.gZ_a m.gZ_n m.gZ_c) (by kernel_rfl) rfl (by kernel_rfl)) ?_
  refine J.run 3 K13_5 [(12, .bool (decide (i < (m.gZ_n : Int)))), (3, .int .i64 i), (1, .pointer (some ⟨b1, 0, none⟩))] w3 (by kernel_rfl) ?_
  by_cases fk2 : i < (m.gZ_n : Int)
  rotate_left
  ·skip
   refine J.head (.bool false) (congrArg Value.bool (decide_eq_false fk2)) ?_
   refine J.run 6 K13_13 [(2, .bool true)] w3 (by kernel_rfl) ?_
   refine J.ret Tryz.f13 [.bool true] Tryz.func13 ⟨by kernel_rfl, trivial⟩ ?_
   refine hR _ _ ?_
   exact ⟨congrArg Value.bool (rises_yes fk1 fun a ha b hb => hq a (by omega) b hb).symm, S3.nil⟩
  refine J.head (.bool true) (congrArg Value.bool (decide_eq_true fk2)) ?_
  refine J.run 7 K13_6 [(15, .pointer (some ⟨b1, 1, none⟩)), (3, .int .i64 i), (1, .pointer (some ⟨b1, 0, none⟩))] w3 (by kernel_rfl) ?_
  refine J.ok (OK.ldBox S3 0 16 22 1 (.slice m.gY_a m.gY_n m.gY_c) (by kernel_rfl) rfl (by kernel_rfl)) ?_
  refine J.run 5 K13_7 [(18, .int .i64 0), (17, .int .i64 (m.gY_n : Int)), (3, .int .i64 i), (1, .pointer (some ⟨b1, 0, none⟩))] w3 (by kernel_rfl) ?_
  have L13_2 : ∀ (mm_ : Nat) (j : Int) (w4 : World), (0 ≤ j) → (j ≤ (m.gY_n : Int)) → (∀ b, b < (j).toNat → zF m (i - 1).toNat b ≤ zF m i.toNat b) → Sep w [box b1 [.slice m.gX_a m.gX_n m.gX_c, .slice m.gY_a m.gY_n m.gY_c, .slice m.gZ_a m.gZ_n m.gZ_c] 25] w4 → ((m.gY_n : Int) - j).toNat = mm_ → J Tryz.prog 13 40 R K13_7 [(18, .int .i64 j), (17, .int .i64 (m.gY_n : Int)), (3, .int .i64 i), (1, .pointer (some ⟨b1, 0, none⟩))] w4 := by
   intro mm2
   induction mm2 using Nat.strongRecOn with
   | _ mm2 ih2 =>
   intro j w4 j0 j1 hr S4 hm2
   have hw3 := (hw1 (by omega)).1
   have hw4 := (hw2 (by omega)).1
   refine J.run 5 K13_8 [(19, .bool (decide (j < (m.gY_n : Int)))), (18, .int .i64 j), (17, .int .i64 (m.gY_n : Int)), (3, .int .i64 i), (1, .pointer (some ⟨b1, 0, none⟩))] w4 (by kernel_rfl) ?_
   by_cases fk3 : j < (m.gY_n : Int)
   rotate_left
   ·skip
    refine J.head (.bool false) (congrArg Value.bool (decide_eq_false fk3)) ?_
    refine J.run 6 K13_12 [(14, .int .i64 (IntKind.wrap .i64 (i + 1))), (1, .pointer (some ⟨b1, 0, none⟩))] w4 (by kernel_rfl) ?_
    refine J.head (.int .i64 (i + 1)) (congrArg (Value.int .i64) (IntWalk.i64_in _ (by omega))) ?_
    refine J.run 3 K13_3 [(3, .int .i64 (i + 1)), (1, .pointer (some ⟨b1, 0, none⟩))] w4 (by kernel_rfl) ?_
    refine J.run 0 K13_3 [(3, .int .i64 (i + 1)), (1, .pointer (some ⟨b1, 0, none⟩))] w4 (by kernel_rfl) ?_
    exact ih1 _ (show ((m.gX_n : Int) - (i + 1)).toNat < mm1 from by omega) (i + 1) w4 (by omega) (by omega) (rise_step h0 hq fun b hb => hr b (by omega)) S4 rfl
   refine J.head (.bool true) (congrArg Value.bool (decide_eq_true fk3)) ?_
   refine J.run 10 K13_9 [(4, .int .i64 j), (18, .int .i64 j), (17, .int .i64 (m.gY_n : Int)), (3, .int .i64 i), (1, .pointer (some ⟨b1, 0, none⟩))] w4 (by kernel_rfl) ?_
   obtain ⟨p1, hp1, hc1⟩ := q8.at rw0 (i).toNat (by omega)
   have hel1 := getD_Q q9 rw0 (n := (i).toNat) (by have := q8.len_eq; omega)
   obtain ⟨q10, q11, q12, _⟩ := id hel1
   have ql4 := q11.len_eq
   obtain ⟨p2, hp2, hc2⟩ := q11.at 0 (j).toNat (by omega)
   have hel2 := getD_Q q12 0 (n := (j).toNat) (by have := q11.len_eq; omega)
   obtain ⟨p3, hp3, hc3⟩ := q8.at rw0 (i - 1).toNat (by omega)
   have hel3 := getD_Q q9 rw0 (n := (i - 1).toNat) (by have := q8.len_eq; omega)
   obtain ⟨q13, q14, q15, _⟩ := id hel3
   have ql5 := q14.len_eq
   obtain ⟨p4, hp4, hc4⟩ := q14.at 0 (j).toNat (by omega)
   have hel4 := getD_Q q15 0 (n := (j).toNat) (by have := q14.len_eq; omega)
   refine J.drawStill S4 18 Tryz.mixed (by kernel_rfl) (by kernel_rfl) (by kernel_rfl) ?_
   intro w5 S5
   refine SL.ok (by decide) (OK.run 21 (.pointer (some ⟨b1, 2, none⟩)) (by kernel_rfl)) ?_
   refine SL.ok (by decide) (OK.ldBox S5 0 22 23 2 (.slice m.gZ_a m.gZ_n m.gZ_c) (by kernel_rfl) rfl (by kernel_rfl)) ?_
   refine SL.ok (by decide) (OK.run 23 (.int .i64 i) (by kernel_rfl)) ?_
   refine SL.ok (by decide) (OK.index 24 23 1 m.gZ_a p1 m.gZ_n (i).toNat i (p1.add ((i).toNat * 1)) (by kernel_rfl) (by kernel_rfl) hp1 (by omega) (by omega) rfl) ?_
   refine SL.ok (by decide) (OK.ldCell 25 22 (p1.add ((i).toNat * 1)) (.slice ((m.gZ_l.getD (i).toNat rw0).gS_a) ((m.gZ_l.getD (i).toNat rw0).gS_n) ((m.gZ_l.getD (i).toNat rw0).gS_c)) (by kernel_rfl) (by kernel_rfl) (S5.cell (cell_zero (hc1 0 _ rfl)))) ?_
   refine SL.ok (by decide) (OK.run 26 (.int .i64 j) (by kernel_rfl)) ?_
   refine SL.ok (by decide) (OK.index 27 22 1 ((m.gZ_l.getD (i).toNat rw0).gS_a) p2 ((m.gZ_l.getD (i).toNat rw0).gS_n) (j).toNat j (p2.add (j).toNat) (by kernel_rfl) (by kernel_rfl) hp2 (by omega) (by omega) (by rw [Nat.mul_one])) ?_
   refine SL.ok (by decide) (OK.ldCell 28 3 (p2.add (j).toNat) (.int .i64 (((m.gZ_l.getD (i).toNat rw0).gS_l).getD (j).toNat 0)) (by kernel_rfl) (by kernel_rfl) (S5.cell hc2)) ?_
   refine SL.ok (by decide) (OK.run 29 (.pointer (some ⟨b1, 2, none⟩)) (by kernel_rfl)) ?_
   refine SL.ok (by decide) (OK.ldBox S5 0 30 23 2 (.slice m.gZ_a m.gZ_n m.gZ_c) (by kernel_rfl) rfl (by kernel_rfl)) ?_
   refine SL.ok (by decide) (OK.run 31 (.int .i64 i) (by kernel_rfl)) ?_
   refine SL.ok (by decide) (OK.run 32 (.int .i64 (IntKind.wrap .i64 (i - 1))) (by kernel_rfl)) ?_
   refine SL.head (.int .i64 (i - 1)) (congrArg (Value.int .i64) (IntWalk.i64_in _ (by omega))) ?_
   refine SL.ok (by decide) (OK.index 33 23 1 m.gZ_a p3 m.gZ_n (i - 1).toNat (i - 1) (p3.add ((i - 1).toNat * 1)) (by kernel_rfl) (by kernel_rfl) hp3 (by omega) (by omega) rfl) ?_
   refine SL.ok (by decide) (OK.ldCell 34 22 (p3.add ((i - 1).toNat * 1)) (.slice ((m.gZ_l.getD (i - 1).toNat rw0).gS_a) ((m.gZ_l.getD (i - 1).toNat rw0).gS_n) ((m.gZ_l.getD (i - 1).toNat rw0).gS_c)) (by kernel_rfl) (by kernel_rfl) (S5.cell (cell_zero (hc3 0 _ rfl)))) ?_
   refine SL.ok (by decide) (OK.run 35 (.int .i64 j) (by kernel_rfl)) ?_
   refine SL.ok (by decide) (OK.index 36 22 1 ((m.gZ_l.getD (i - 1).toNat rw0).gS_a) p4 ((m.gZ_l.getD (i - 1).toNat rw0).gS_n) (j).toNat j (p4.add (j).toNat) (by kernel_rfl) (by kernel_rfl) hp4 (by omega) (by omega) (by rw [Nat.mul_one])) ?_
   refine SL.ok (by decide) (OK.ldCell 37 3 (p4.add (j).toNat) (.int .i64 (((m.gZ_l.getD (i - 1).toNat rw0).gS_l).getD (j).toNat 0)) (by kernel_rfl) (by kernel_rfl) (S5.cell hc4)) ?_
   refine SL.ok (by decide) (OK.run 38 (.bool (decide ((((m.gZ_l.getD (i).toNat rw0).gS_l).getD (j).toNat 0) < (((m.gZ_l.getD (i - 1).toNat rw0).gS_l).getD (j).toNat 0)))) (by kernel_rfl)) ?_
   refine SL.done ?_
   refine TL.done (by kernel_rfl) ?_
   refine J.run 0 (rRest K13_9) [(38, .bool (decide ((((m.gZ_l.getD (i).toNat rw0).gS_l).getD (j).toNat 0) < (((m.gZ_l.getD (i - 1).toNat rw0).gS_l).getD (j).toNat 0)))), (18, .int .i64 j), (17, .int .i64 (m.gY_n : Int)), (3, .int .i64 i), (1, .pointer (some ⟨b1, 0, none⟩))] w5 (by kernel_rfl) ?_
   by_cases fk4 : (((m.gZ_l.getD (i).toNat rw0).gS_l).getD (j).toNat 0) < (((m.gZ_l.getD (i - 1).toNat rw0).gS_l).getD (j).toNat 0)
   ·skip
    refine J.head (.bool true) (congrArg Value.bool (decide_eq_true fk4)) ?_
    refine J.run 5 K13_10 [(2, .bool false)] w5 (by kernel_rfl) ?_
    refine J.ret Tryz.f13 [.bool false] Tryz.func13 ⟨by kernel_rfl, trivial⟩ ?_
    refine hR _ _ ?_
    exact ⟨congrArg Value.bool (rises_bad (i := i) (j := j) (by omega) (by omega) (by omega) (by omega) (by unfold zF; omega)).symm, S5.nil⟩
   refine J.head (.bool false) (congrArg Value.bool (decide_eq_false fk4)) ?_
   refine J.run 5 K13_11 [(39, .int .i64 (IntKind.wrap .i64 (j + 1))), (17, .int .i64 (m.gY_n : Int)), (3, .int .i64 i), (1, .pointer (some ⟨b1, 0, none⟩))] w5 (by kernel_rfl) ?_
   refine J.head (.int .i64 (j + 1)) (congrArg (Value.int .i64) (IntWalk.i64_in _ (by omega))) ?_
   refine J.run 3 K13_7 [(18, .int .i64 (j + 1)), (17, .int .i64 (m.gY_n : Int)), (3, .int .i64 i), (1, .pointer (some ⟨b1, 0, none⟩))] w5 (by kernel_rfl) ?_
   refine J.run 0 K13_7 [(18, .int .i64 (j + 1)), (17, .int .i64 (m.gY_n : Int)), (3, .int .i64 i), (1, .pointer (some ⟨b1, 0, none⟩))] w5 (by kernel_rfl) ?_
   exact ih2 _ (show ((m.gY_n : Int) - (j + 1)).toNat < mm2 from by omega) (j + 1) w5 (by omega) (by omega) (all_step (q := fun b => zF m (i - 1).toNat b ≤ zF m i.toNat b) j0 hr (by unfold zF; omega)) S5 rfl
  exact L13_2 _ 0 w3 (by omega) (by omega) (by intro b hb; simp at hb) S3 rfl
 exact L13_1 _ 1 w2 (by omega) (by omega) (by intro a ha; simp at ha) S2 rfl

def longR (r : Rw) : Bool := decide ((r.gS_n : Int) > 40)
def fewB (m : Mp) : Bool := decide ((m.gX_n : Int) ≤ 40) && decide ((m.gY_n : Int) ≤ 40) && decide ((m.gZ_n : Int) ≤ 40) && !m.gZ_l.any longR
theorem hb15 : HasBody Tryz.prog 15 := fun _ _ => by kernel_rfl
def K15_0 := adv 11 [] (bodyOf Tryz.f15)
set_option maxRecDepth 20000 in
set_option maxHeartbeats 20000000 in
theorem long_any (r : Rw) (w : World) : Ret Tryz.prog 15 #[.slice r.gS_a r.gS_n r.gS_c] w (fun v w' => v = .bool (longR r) ∧ Sep w [] w') := by
 have S0 := Sep.refl w
 refine Ret.named fun R hR => ?_
 refine Ret.of_J (N := 6) [(0, .slice r.gS_a r.gS_n r.gS_c)] Tryz.func15 rfl rfl (Nat.le_of_ble_eq_true (by kernel_rfl)) (by kernel_rfl) ?_
 refine J.run 11 K15_0 [(2, .bool (decide ((r.gS_n : Int) > 40)))] w (by kernel_rfl) ?_
 refine J.ret Tryz.f15 [.bool (decide ((r.gS_n : Int) > 40))] Tryz.func15 ⟨by kernel_rfl, trivial⟩ ?_
 refine hR _ _ ?_
 exact ⟨rfl, S0.nil⟩

theorem hb29 : HasBody Tryz.prog 29 := fun _ _ => by kernel_rfl
def K29_0 := adv 13 [] (bodyOf Tryz.f29)
def K29_1 := adv 5 [] K29_0
def K29_2 := adv 14 [true] K29_1
def K29_3 := adv 1 [] (popK (popK (popK K29_2)))
def K29_4 := adv 6 [true] K29_3
def K29_5 := adv 5 [false] K29_3
def K29_6 := adv 6 [false] K29_1
set_option maxRecDepth 20000 in
set_option maxHeartbeats 20000000 in
theorem indexR0 (la : Option Addr) (len cap : Nat) (l : List Rw) (g : FuncId) (q : Rw → Bool) (w : World) (hI : Recs rwE 1 w la len l) (hlen : len ≤ 9223372036854775807) (hbg : HasBody Tryz.prog g) (hcall : ∀ (i : Nat) (w2 : World), i < l.length → Sep w [] w2 → Ret Tryz.prog g #[.slice ((l.getD i rw0).gS_a) ((l.getD i rw0).gS_n) ((l.getD i rw0).gS_c)] w2 (fun v w3 => v = .bool (q (l.getD i rw0)) ∧ Sep w2 [] w3)) : Ret Tryz.prog 29 #[.slice la len cap, .func (.func g) #[] #[]] w (fun v w' => v = .int .i64 (indexF q l) ∧ Sep w [] w') := by
 have S0 := Sep.refl w
 refine Ret.named fun R hR => ?_
 refine Ret.of_J (N := 19) [(0, .slice la len cap), (1, .func (.func g) #[] #[])] Tryz.func29 rfl rfl (Nat.le_of_ble_eq_true (by kernel_rfl)) (by kernel_rfl) ?_
 refine J.run 13 K29_0 [(8, .int .i64 0), (7, .int .i64 (len : Int)), (0, .slice la len cap), (1, .func (.func g) #[] #[])] w (by kernel_rfl) ?_
 have L29_1 : ∀ (mm_ : Nat) (i : Int) (w1 : World), (0 ≤ i) → (i ≤ (len : Int)) → (∀ j, j < (i).toNat → q (l.getD j rw0) = false) → Sep w [] w1 → ((len : Int) - i).toNat = mm_ → J Tryz.prog 29 19 R K29_0 [(8, .int .i64 i), (7, .int .i64 (len : Int)), (0, .slice la len cap), (1, .func (.func g) #[] #[])] w1 := by
  intro mm1
  induction mm1 using Nat.strongRecOn with
  | _ mm1 ih1 =>
  intro i w1 h0 h1 hq S1 hm1
  refine J.run 5 K29_1 [(9, .bool (decide (i < (len : Int)))), (8, .int .i64 i), (7, .int .i64 (len : Int)), (0, .slice la len cap), (1, .func (.func g) #[] #[])] w1 (by kernel_rfl) ?_
  by_cases fk1 : i < (len : Int)
  rotate_left
  ·skip
   refine J.head (.bool false) (congrArg Value.bool (decide_eq_false fk1)) ?_
   refine J.run 6 K29_6 [(4, .int .i64 (-1))] w1 (by kernel_rfl) ?_
   refine J.ret Tryz.f29 [.int .i64 (-1)] Tryz.func29 ⟨by kernel_rfl, trivial⟩ ?_
   refine hR _ _ ?_
   exact ⟨by rw [tup_one, indexF_none rw0 fun j hj => hq j (by have := hI.len_eq; omega)], S1.nil⟩
  refine J.head (.bool true) (congrArg Value.bool (decide_eq_true fk1)) ?_
  refine J.run 14 K29_2 [(13, .int .i64 i), (12, .slice la len cap), (11, .func (.func g) #[] #[]), (5, .int .i64 i), (8, .int .i64 i), (7, .int .i64 (len : Int)), (0, .slice la len cap), (1, .func (.func g) #[] #[])] w1 (by kernel_rfl) ?_
  obtain ⟨p1, hp1, hc1⟩ := hI.at rw0 (i).toNat (by omega)
  refine J.ok (OK.index 14 23 1 la p1 len (i).toNat i (p1.add ((i).toNat * 1)) (by kernel_rfl) (by kernel_rfl) hp1 (by omega) (by omega) rfl) ?_
  refine J.ok (OK.ldCell 15 22 (p1.add ((i).toNat * 1)) (.slice ((l.getD (i).toNat rw0).gS_a) ((l.getD (i).toNat rw0).gS_n) ((l.getD (i).toNat rw0).gS_c)) (by kernel_rfl) (by kernel_rfl) (S1.cell (cell_zero (hc1 0 _ rfl)))) ?_
  refine J.callF 16 g #[.slice ((l.getD (i).toNat rw0).gS_a) ((l.getD (i).toNat rw0).gS_n) ((l.getD (i).toNat rw0).gS_c)] hbg (by kernel_rfl) (hcall (i).toNat w1 (by have := hI.len_eq; omega) S1.nil) ?_
  rintro _ w2 ⟨rfl, T1⟩
  have S2 : Sep w [] w2 := S1.trans T1
  clear T1 S1
  refine J.run 1 K29_3 [(16, .bool (q (l.getD (i).toNat rw0))), (5, .int .i64 i), (8, .int .i64 i), (7, .int .i64 (len : Int)), (0, .slice la len cap), (1, .func (.func g) #[] #[])] w2 (by kernel_rfl) ?_
  rcases Bool.eq_false_or_eq_true (q (l.getD (i).toNat rw0)) with fk2 | fk2
  ·skip
   refine J.head (.bool true) (congrArg Value.bool fk2) ?_
   refine J.run 6 K29_4 [(4, .int .i64 i)] w2 (by kernel_rfl) ?_
   refine J.ret Tryz.f29 [.int .i64 i] Tryz.func29 ⟨by kernel_rfl, trivial⟩ ?_
   refine hR _ _ ?_
   exact ⟨by rw [tup_one, indexF_some rw0 i.toNat (by have := hI.len_eq; omega) hq fk2, Int.toNat_of_nonneg h0], S2.nil⟩
  refine J.head (.bool false) (congrArg Value.bool fk2) ?_
  refine J.run 5 K29_5 [(18, .int .i64 (IntKind.wrap .i64 (i + 1))), (7, .int .i64 (len : Int)), (0, .slice la len cap), (1, .func (.func g) #[] #[])] w2 (by kernel_rfl) ?_
  refine J.head (.int .i64 (i + 1)) (congrArg (Value.int .i64) (IntWalk.i64_in _ (by omega))) ?_
  refine J.run 3 K29_0 [(8, .int .i64 (i + 1)), (7, .int .i64 (len : Int)), (0, .slice la len cap), (1, .func (.func g) #[] #[])] w2 (by kernel_rfl) ?_
  refine J.run 0 K29_0 [(8, .int .i64 (i + 1)), (7, .int .i64 (len : Int)), (0, .slice la len cap), (1, .func (.func g) #[] #[])] w2 (by kernel_rfl) ?_
  exact ih1 _ (show ((len : Int) - (i + 1)).toNat < mm1 from by omega) (i + 1) w2 (by omega) (by omega) (by intro j hj; by_cases e : j = i.toNat; (subst e; exact fk2); exact hq j (by omega)) S2 rfl
 exact L29_1 _ 0 w (by omega) (by omega) (by intro j hj; simp at hj) S0 rfl

theorem hb14 : HasBody Tryz.prog 14 := fun _ _ => by kernel_rfl
def K14_0 := adv 8 [] (bodyOf Tryz.f14)
def K14_1 := adv 3 [] (popK K14_0)
set_option maxRecDepth 20000 in
set_option maxHeartbeats 20000000 in
theorem containsR0 (la : Option Addr) (len cap : Nat) (l : List Rw) (g : FuncId) (q : Rw → Bool) (w : World) (hI : Recs rwE 1 w la len l) (hlen : len ≤ 9223372036854775807) (hbg : HasBody Tryz.prog g) (hcall : ∀ (i : Nat) (w2 : World), i < l.length → Sep w [] w2 → Ret Tryz.prog g #[.slice ((l.getD i rw0).gS_a) ((l.getD i rw0).gS_n) ((l.getD i rw0).gS_c)] w2 (fun v w3 => v = .bool (q (l.getD i rw0)) ∧ Sep w2 [] w3)) : Ret Tryz.prog 14 #[.slice la len cap, .func (.func g) #[] #[]] w (fun v w' => v = .bool (l.any q) ∧ Sep w [] w') := by
 have S0 := Sep.refl w
 refine Ret.named fun R hR => ?_
 refine Ret.of_J (N := 9) [(0, .slice la len cap), (1, .func (.func g) #[] #[])] Tryz.func14 rfl rfl (Nat.le_of_ble_eq_true (by kernel_rfl)) (by kernel_rfl) ?_
 refine J.run 8 K14_0 [(6, .func (.func g) #[] #[]), (5, .slice la len cap)] w (by kernel_rfl) ?_
 refine J.callF 7 29 #[.slice la len cap, .func (.func g) #[] #[]] hb29 (by kernel_rfl) (indexR0 la len cap l g  q _ (hI.sep S0) (by first | omega | (simp; omega)) hbg (hcall)) ?_
 rintro _ w1 ⟨rfl, T1⟩
 have S1 : Sep w [] w1 := S0.trans T1
 clear T1
 refine J.run 3 K14_1 [(4, .bool (decide ((indexF q l) ≥ 0)))] w1 (by kernel_rfl) ?_
 refine J.ret Tryz.f14 [.bool (decide ((indexF q l) ≥ 0))] Tryz.func14 ⟨by kernel_rfl, trivial⟩ ?_
 refine hR _ _ ?_
 exact ⟨congrArg Value.bool (by first | exact indexF_nonneg), S1.nil⟩

theorem hb5 : HasBody Tryz.prog 5 := fun _ _ => by kernel_rfl
def K5_0 := adv 2 [] (bodyOf Tryz.f5)
def K5_1 := adv 5 [] (popK K5_0)
def K5_2 := adv 3 [] (popK K5_1)
def K5_3 := adv 1 [] K5_2
def K5_4 := adv 4 [] (popK K5_3)
def K5_5 := adv 1 [] K5_4
def K5_6 := adv 4 [] (popK K5_5)
def K5_7 := adv 1 [] K5_6
def K5_8 := adv 4 [] (popK (popK K5_7))
def K5_9 := adv 7 [] K5_6
def K5_10 := adv 13 [] K5_4
def K5_11 := adv 19 [] K5_2
set_option maxRecDepth 20000 in
set_option maxHeartbeats 20000000 in
theorem few_any (m : Mp) (w : World) (hm : mpQ w m) : Ret Tryz.prog 5 #[.agg #[.slice m.gX_a m.gX_n m.gX_c, .slice m.gY_a m.gY_n m.gY_c, .slice m.gZ_a m.gZ_n m.gZ_c]] w (fun v w' => v = .bool (fewB m) ∧ Sep w [] w') := by
 have S0 := Sep.refl w
 refine Ret.named fun R hR => ?_
 refine Ret.of_J (N := 25) [(0, .agg #[.slice m.gX_a m.gX_n m.gX_c, .slice m.gY_a m.gY_n m.gY_c, .slice m.gZ_a m.gZ_n m.gZ_c])] Tryz.func5 rfl rfl (Nat.le_of_ble_eq_true (by kernel_rfl)) (by kernel_rfl) ?_
 obtain ⟨q1, q2, q3, q4, q5, q6, q7, q8, q9, _⟩ := id hm
 have ql1 := q2.len_eq
 have ql2 := q5.len_eq
 have ql3 := q8.len_eq
 refine J.run 2 K5_0 [(0, .agg #[.slice m.gX_a m.gX_n m.gX_c, .slice m.gY_a m.gY_n m.gY_c, .slice m.gZ_a m.gZ_n m.gZ_c])] w (by kernel_rfl) ?_
 refine J.new S0 1 [.slice m.gX_a m.gX_n m.gX_c, .slice m.gY_a m.gY_n m.gY_c, .slice m.gZ_a m.gZ_n m.gZ_c] 25 (by kernel_rfl) ?_
 intro b1 w1 S1
 refine J.run 5 K5_1 [(3, .pointer (some ⟨b1, 0, none⟩)), (1, .pointer (some ⟨b1, 0, none⟩))] w1 (by kernel_rfl) ?_
 refine J.ok (OK.ldBox S1 0 4 22 0 (.slice m.gX_a m.gX_n m.gX_c) (by kernel_rfl) rfl (by kernel_rfl)) ?_
 refine J.run 3 K5_2 [(7, .bool (decide ((m.gX_n : Int) ≤ 40))), (1, .pointer (some ⟨b1, 0, none⟩))] w1 (by kernel_rfl) ?_
 by_cases fk1 : (m.gX_n : Int) ≤ 40
 rotate_left
 ·skip
  refine J.head (.bool false) (congrArg Value.bool (decide_eq_false fk1)) ?_
  refine J.run 19 K5_11 [(2, .bool false)] w1 (by kernel_rfl) ?_
  refine J.ret Tryz.f5 [.bool false] Tryz.func5 ⟨by kernel_rfl, trivial⟩ ?_
  refine hR _ _ ?_
  exact ⟨congrArg Value.bool (by unfold fewB; first | (simp [fk1]; done) | (simp [fk1]; omega)), S1.nil⟩
 refine J.head (.bool true) (congrArg Value.bool (decide_eq_true fk1)) ?_
 refine J.run 1 K5_3 [(8, .pointer (some ⟨b1, 1, none⟩)), (7, .bool true), (1, .pointer (some ⟨b1, 0, none⟩))] w1 (by kernel_rfl) ?_
 refine J.ok (OK.ldBox S1 0 9 22 1 (.slice m.gY_a m.gY_n m.gY_c) (by kernel_rfl) rfl (by kernel_rfl)) ?_
 refine J.run 4 K5_4 [(13, .bool (decide ((m.gY_n : Int) ≤ 40))), (1, .pointer (some ⟨b1, 0, none⟩))] w1 (by kernel_rfl) ?_
 by_cases fk2 : (m.gY_n : Int) ≤ 40
 rotate_left
 ·skip
  refine J.head (.bool false) (congrArg Value.bool (decide_eq_false fk2)) ?_
  refine J.run 13 K5_10 [(2, .bool false)] w1 (by kernel_rfl) ?_
  refine J.ret Tryz.f5 [.bool false] Tryz.func5 ⟨by kernel_rfl, trivial⟩ ?_
  refine hR _ _ ?_
  exact ⟨congrArg Value.bool (by unfold fewB; first | (simp [fk1, fk2]; done) | (simp [fk1, fk2]; omega)), S1.nil⟩
 refine J.head (.bool true) (congrArg Value.bool (decide_eq_true fk2)) ?_
 refine J.run 1 K5_5 [(14, .pointer (some ⟨b1, 2, none⟩)), (13, .bool true), (1, .pointer (some ⟨b1, 0, none⟩))] w1 (by kernel_rfl) ?_
 refine J.ok (OK.ldBox S1 0 15 23 2 (.slice m.gZ_a m.gZ_n m.gZ_c) (by kernel_rfl) rfl (by kernel_rfl)) ?_
 refine J.run 4 K5_6 [(19, .bool (decide ((m.gZ_n : Int) ≤ 40))), (1, .pointer (some ⟨b1, 0, none⟩))] w1 (by kernel_rfl) ?_
 by_cases fk3 : (m.gZ_n : Int) ≤ 40
 rotate_left
 ·skip
  refine J.head (.bool false) (congrArg Value.bool (decide_eq_false fk3)) ?_
  refine J.run 7 K5_9 [(2, .bool false)] w1 (by kernel_rfl) ?_
  refine J.ret Tryz.f5 [.bool false] Tryz.func5 ⟨by kernel_rfl, trivial⟩ ?_
  refine hR _ _ ?_
  exact ⟨congrArg Value.bool (by unfold fewB; first | (simp [fk1, fk2, fk3]; done) | (simp [fk1, fk2, fk3]; omega)), S1.nil⟩
 refine J.head (.bool true) (congrArg Value.bool (decide_eq_true fk3)) ?_
 refine J.run 1 K5_7 [(20, .pointer (some ⟨b1, 2, none⟩)), (19, .bool true)] w1 (by kernel_rfl) ?_
 refine J.ok (OK.ldBox S1 0 21 23 2 (.slice m.gZ_a m.gZ_n m.gZ_c) (by kernel_rfl) rfl (by kernel_rfl)) ?_
 refine J.callF 22 14 #[.slice m.gZ_a m.gZ_n m.gZ_c, .func (.func 15) #[] #[]] hb14 (by kernel_rfl) (containsR0 m.gZ_a m.gZ_n m.gZ_c m.gZ_l 15  longR _ (q8.sep S1) (by first | omega | (simp; omega)) hb15 (fun i_ w_ hi_ S_ => long_any _ w_)) ?_
 rintro _ w2 ⟨rfl, T1⟩
 have S2 : Sep w [box b1 [.slice m.gX_a m.gX_n m.gX_c, .slice m.gY_a m.gY_n m.gY_c, .slice m.gZ_a m.gZ_n m.gZ_c] 25] w2 := S1.trans T1
 clear T1 S1
 refine J.run 4 K5_8 [(2, .bool (!(List.any m.gZ_l longR)))] w2 (by kernel_rfl) ?_
 refine J.ret Tryz.f5 [.bool (!(List.any m.gZ_l longR))] Tryz.func5 ⟨by kernel_rfl, trivial⟩ ?_
 refine hR _ _ ?_
 exact ⟨congrArg Value.bool (by unfold fewB; first | (simp [fk1, fk2, fk3]; done) | (simp [fk1, fk2, fk3]; omega)), S2.nil⟩

end
end Go.Proofs.YtadgnficogeheaaGreatDoor

