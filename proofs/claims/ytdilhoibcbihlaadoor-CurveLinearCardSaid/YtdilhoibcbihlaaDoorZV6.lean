/- Walks of functions of this seat, printed by a program over the engine. Conditions: as each theorem says. -/
import Derived.Test.YtdilhoibcbihlaaDoorZA5
namespace Go.Proofs.YtdilhoibcbihlaaDoor
open Go.Eng Go.RowKit
set_option linter.unusedSimpArgs false
set_option linter.unusedVariables false
def elB (n : Int) : Bool := decide (-1073741824 ≤ n) && decide (n ≤ 1073741824)
theorem elB_iff {n : Int} : elB n = true ↔ -1073741824 ≤ n ∧ n ≤ 1073741824 := by simp [elB]
def nodeB (l : List Int) (i : Nat) : Bool := elB (l.getD i 0) && (i == 0 || decide (l.getD (i - 1) 0 < l.getD i 0))
def axisB (l : List Int) : Bool := decide (2 ≤ l.length) && decide (l.length ≤ 32) && (List.range l.length).all (nodeB l)
theorem all_range_false {n j : Nat} {p : Nat → Bool} (h : j < n) (hp : p j = false) : (List.range n).all p = false := by
  rw [List.all_eq_false]; exact ⟨j, by simpa using h, by simp [hp]⟩
theorem all_range_true {n : Nat} {p : Nat → Bool} (h : ∀ j, j < n → p j = true) : (List.range n).all p = true := by
  rw [List.all_eq_true]; intro j hj; exact h j (by simpa using hj)
theorem all_step {q : Nat → Prop} {i : Int} (h0 : 0 ≤ i) (hq : ∀ k, k < i.toNat → q k) (h : q i.toNat) : ∀ k, k < (i + 1).toNat → q k := by
  intro k hk
  by_cases e : k = i.toNat
  · subst e; exact h
  · exact hq k (by omega)
theorem node_no {l : List Int} {i : Int} (h0 : 0 ≤ i) (h : elB (l.getD i.toNat 0) = false ∨ (0 < i ∧ l.getD i.toNat 0 ≤ l.getD (i - 1).toNat 0)) : nodeB l i.toNat = false := by
  unfold nodeB
  rcases h with h | ⟨h1, h2⟩
  · rw [h]; rfl
  · rw [beq_eq_false_iff_ne.2 (show i.toNat ≠ 0 by omega), Bool.false_or, show i.toNat - 1 = (i - 1).toNat by omega, decide_eq_false (by omega), Bool.and_false]
theorem axis_no {l : List Int} (h : l.length < 2 ∨ 32 < l.length) : axisB l = false := by
  unfold axisB
  rcases h with h | h
  · rw [decide_eq_false (by omega)]; rfl
  · rw [decide_eq_false (show ¬ l.length ≤ 32 by omega)]; simp
theorem axis_bad {l : List Int} {i : Int} (h0 : 0 ≤ i) (hi : i < (l.length : Int)) (h : nodeB l i.toNat = false) : axisB l = false := by
  unfold axisB; rw [all_range_false (j := i.toNat) (by omega) h]; simp
theorem axis_yes {l : List Int} (h1 : 2 ≤ l.length) (h2 : l.length ≤ 32) (h : ∀ j, j < l.length → nodeB l j = true) : axisB l = true := by
  unfold axisB; rw [decide_eq_true h1, decide_eq_true h2, all_range_true h]; rfl
theorem axis_facts {l : List Int} (h : axisB l = true) : (2 ≤ l.length ∧ l.length ≤ 32) ∧ (∀ j, j < l.length → -1073741824 ≤ l.getD j 0 ∧ l.getD j 0 ≤ 1073741824) ∧ ∀ j, j + 1 < l.length → l.getD j 0 < l.getD (j + 1) 0 := by
  simp only [axisB, Bool.and_eq_true, decide_eq_true_eq, List.all_eq_true, List.mem_range] at h
  obtain ⟨⟨h1, h2⟩, h3⟩ := h
  refine ⟨⟨h1, h2⟩, fun j hj => ?_, fun j hj => ?_⟩
  · have := h3 j hj
    simp only [nodeB, Bool.and_eq_true] at this
    exact elB_iff.1 this.1
  · have := h3 (j + 1) hj
    simp only [nodeB, Bool.and_eq_true, Bool.or_eq_true, beq_iff_eq, decide_eq_true_eq, Nat.add_sub_cancel] at this
    rcases this.2 with h4 | h4
    · omega
    · exact h4
theorem axis_mono {l : List Int} (h : axisB l = true) {i j : Nat} (hij : i < j) (hj : j < l.length) : l.getD i 0 < l.getD j 0 := by
  obtain ⟨_, _, h3⟩ := axis_facts h
  induction j with
  | zero => omega
  | succ j ih =>
    have := h3 j hj
    by_cases e : i = j
    · subst e; exact this
    · have := ih (by omega) (by omega); omega
theorem getD_mem {α : Type} {l : List α} {n : Nat} (d : α) (h : n < l.length) : l.getD n d ∈ l := by
  rw [List.getD_eq_getElem?_getD, List.getElem?_eq_getElem h]; exact List.getElem_mem h
theorem all_getD {α : Type} {l : List α} {q : α → Bool} (d : α) : l.all q = true ↔ ∀ j, j < l.length → q (l.getD j d) = true := by
  rw [List.all_eq_true]
  constructor
  · intro h j hj; exact h _ (getD_mem d hj)
  · intro h x hx
    obtain ⟨j, hj, rfl⟩ := List.mem_iff_getElem.1 hx
    have := h j hj
    simpa [List.getD, hj] using this
theorem all_no {α : Type} {l : List α} {q : α → Bool} (d : α) {j : Nat} (hj : j < l.length) (h : q (l.getD j d) = false) : l.all q = false := by
  rw [List.all_eq_false]; exact ⟨_, getD_mem d hj, by rw [h]; simp⟩
theorem any_not_all {α : Type} (q : α → Bool) (l : List α) : (l.any fun x => !q x) = !l.all q := by rw [← List.not_all_eq_any_not]

def btwF (x0 x1 y0 y1 x : Int) : Int := y0 + (x - x0) * (y1 - y0) / (x1 - x0)
theorem btw_div {d k t : Int} (hd : 0 < d) (h0 : 0 ≤ t) (h1 : t ≤ d) : (0 ≤ k → 0 ≤ t * k / d ∧ t * k / d ≤ k) ∧ (k ≤ 0 → k ≤ t * k / d ∧ t * k / d ≤ 0) := by
  constructor <;> intro hk
  · refine ⟨Int.ediv_nonneg (Int.mul_nonneg h0 hk) (by omega), ?_⟩
    have := Int.mul_le_mul_of_nonneg_right h1 hk
    exact Int.ediv_le_of_le_mul hd (by rw [Int.mul_comm k d]; exact this)
  · have h2 : d * k ≤ t * k := Int.mul_le_mul_of_nonpos_right h1 hk
    have h3 : t * k ≤ 0 := Int.mul_nonpos_of_nonneg_of_nonpos h0 hk
    exact ⟨(Int.le_ediv_iff_mul_le hd).2 (by rw [Int.mul_comm]; exact h2), by
      have := Int.ediv_le_ediv hd h3; simpa using this⟩
theorem btw_bounds {x0 x1 y0 y1 x : Int} (h : x0 < x1) (h0 : x0 ≤ x) (h1 : x ≤ x1) : (y0 ≤ y1 → y0 ≤ btwF x0 x1 y0 y1 x ∧ btwF x0 x1 y0 y1 x ≤ y1) ∧ (y1 ≤ y0 → y1 ≤ btwF x0 x1 y0 y1 x ∧ btwF x0 x1 y0 y1 x ≤ y0) := by
  obtain ⟨a1, a2⟩ := btw_div (d := x1 - x0) (k := y1 - y0) (t := x - x0) (by omega) (by omega) (by omega)
  unfold btwF
  exact ⟨fun hk => by have := a1 (by omega); omega, fun hk => by have := a2 (by omega); omega⟩
theorem btw_left (x0 x1 y0 y1 : Int) : btwF x0 x1 y0 y1 x0 = y0 := by unfold btwF; simp
theorem btw_right {x0 x1 : Int} (y0 y1 : Int) (h : x0 < x1) : btwF x0 x1 y0 y1 x1 = y1 := by
  unfold btwF; rw [Int.mul_comm, Int.mul_ediv_cancel _ (by omega)]; omega
/-- the segment of an axis -/
def segF (xs : List Int) (x : Int) : Nat := (indexF (fun a => decide (x < a)) xs).toNat - 1
def curveF (xs ys : List Int) (x : Int) : Int :=
  if x ≤ xs.getD 0 0 then ys.getD 0 0 else if xs.getD (xs.length - 1) 0 ≤ x then ys.getD (xs.length - 1) 0 else
  btwF (xs.getD (segF xs x) 0) (xs.getD (segF xs x + 1) 0) (ys.getD (segF xs x) 0) (ys.getD (segF xs x + 1) 0) x
theorem axis_le {l : List Int} (h : axisB l = true) {i j : Nat} (hij : i ≤ j) (hj : j < l.length) : l.getD i 0 ≤ l.getD j 0 := by
  rcases Nat.lt_or_eq_of_le hij with e | e
  · exact Int.le_of_lt (axis_mono h e hj)
  · subst e; exact Int.le_refl _
theorem seg_eq {xs : List Int} {x : Int} {i : Nat} (ax : axisB xs = true) (hi : i + 1 < xs.length) (h1 : xs.getD i 0 ≤ x) (h2 : x < xs.getD (i + 1) 0) : segF xs x = i := by
  unfold segF
  rw [indexF_some 0 (i + 1) hi (fun j hj => decide_eq_false (by have := axis_le ax (show j ≤ i by omega) (by omega); omega)) (decide_eq_true h2)]
  omega
theorem curve_seg {xs ys : List Int} {x x' : Int} {i : Nat} (ax : axisB xs = true) (hi : i + 1 < xs.length) (h1 : xs.getD i 0 ≤ x') (h2 : x' ≤ xs.getD (i + 1) 0) (h3 : x' < xs.getD (i + 1) 0 ∨ i + 2 = xs.length) (hx : x' = min (max x (xs.getD 0 0)) (xs.getD (xs.length - 1) 0)) :
    curveF xs ys x = btwF (xs.getD i 0) (xs.getD (i + 1) 0) (ys.getD i 0) (ys.getD (i + 1) 0) x' := by
  have hmono := axis_mono ax (show i < i + 1 by omega) hi
  have hends := axis_mono ax (show 0 < xs.length - 1 by omega) (by omega)
  have hlast := axis_le ax (show i + 1 ≤ xs.length - 1 by omega) (by omega)
  have hfirst := axis_le ax (show 0 ≤ i by omega) (by omega)
  unfold curveF
  split
  · rename_i ha
    have e : x' = xs.getD 0 0 := by omega
    have hi0 : i = 0 := by
      rcases Nat.eq_zero_or_pos i with h | h
      · exact h
      · have := axis_mono ax h (by omega); omega
    subst hi0
    rw [e, btw_left]
  · split
    · rename_i ha hb
      have e : x' = xs.getD (xs.length - 1) 0 := by omega
      have hi2 : i + 2 = xs.length := by
        rcases h3 with h | h
        · omega
        · exact h
      rw [show xs.length - 1 = i + 1 by omega] at e ⊢
      rw [e, btw_right _ _ hmono]
    · rename_i ha hb
      have e : x' = x := by omega
      subst e
      have h4 : x' < xs.getD (i + 1) 0 := by
        rcases h3 with h | h
        · exact h
        · rw [show xs.length - 1 = i + 1 by omega] at hb; omega
      rw [seg_eq ax hi h1 h4]
theorem floor_pos {a b : Int} (ha : -9223372036854775808 ≤ a ∧ a ≤ 9223372036854775807) (hb : 1 ≤ b) : mdX a 1 b 1 = a / b := by
  rw [floor_val ha (by omega), if_neg (by omega)]
theorem prod_bd {t k : Int} (ht : -2147483648 ≤ t ∧ t ≤ 2147483648) (hk : -2147483648 ≤ k ∧ k ≤ 2147483648) : -4611686018427387904 ≤ t * k ∧ t * k ≤ 4611686018427387904 := by
  have h1 : (t * k).natAbs ≤ 2147483648 * 2147483648 := by rw [Int.natAbs_mul]; exact Nat.mul_le_mul (by omega) (by omega)
  omega
structure Crv where
  gX_a : Option Addr
  gX_n : Nat
  gX_c : Nat
  gX_l : List Int
  gY_a : Option Addr
  gY_n : Nat
  gY_c : Nat
  gY_l : List Int
def crvQ (w : World) (x : Crv) : Prop := (x.gX_n ≤ x.gX_c ∧ x.gX_c ≤ 9223372036854775807) ∧ Ones (Value.int .i64) w x.gX_a x.gX_n x.gX_l ∧ (∀ y ∈ x.gX_l, (fun n => (-9223372036854775808) ≤ n ∧ n ≤ 9223372036854775807) y) ∧ (x.gY_n ≤ x.gY_c ∧ x.gY_c ≤ 9223372036854775807) ∧ Ones (Value.int .i64) w x.gY_a x.gY_n x.gY_l ∧ (∀ y ∈ x.gY_l, (fun n => (-9223372036854775808) ≤ n ∧ n ≤ 9223372036854775807) y) ∧ True
theorem crvQ_sep {w0 w : World} {L : List Eng.Claim} {x : Crv} (h : crvQ w0 x) (S : Sep w0 L w) : crvQ w x := by
  obtain ⟨hgX1, hgX2, hgX3, hgY1, hgY2, hgY3, _⟩ := h
  exact ⟨hgX1, hgX2.sep S, hgX3, hgY1, hgY2.sep S, hgY3, trivial⟩
theorem axis_adj {l : List Int} (h1 : 2 ≤ l.length) (h2 : l.length ≤ 32) (h3 : l.all elB = true) (h : ∀ j, j + 1 < l.length → l.getD j 0 < l.getD (j + 1) 0) : axisB l = true := by
  refine axis_yes h1 h2 fun j hj => ?_
  unfold nodeB
  rw [(all_getD 0).1 h3 j hj, Bool.true_and, Bool.or_eq_true]
  cases j with
  | zero => left; rfl
  | succ j => right; exact decide_eq_true (h j hj)
theorem axis_far {l : List Int} (h : l.all elB = false) : axisB l = false := by
  cases hx : axisB l with
  | false => rfl
  | true =>
    have : l.all elB = true := (all_getD 0).2 fun j hj => elB_iff.2 ((axis_facts hx).2.1 j hj)
    rw [this] at h; cases h
theorem axis_down {l : List Int} {i : Int} (h0 : 0 ≤ i) (hi : i + 1 < (l.length : Int)) (h : l.getD i.toNat 0 ≥ l.getD (i + 1).toNat 0) : axisB l = false :=
  axis_bad (i := i + 1) (by omega) hi (node_no (by omega) (.inr ⟨by omega, by rw [show i + 1 - 1 = i by omega]; exact h⟩))
def validV (c : Crv) : Bool := c.gX_n == c.gY_n && axisB c.gX_l && c.gY_l.all elB
theorem validV_facts {c : Crv} (h : validV c = true) : c.gX_n = c.gY_n ∧ axisB c.gX_l = true ∧ ∀ j, j < c.gY_l.length → -1073741824 ≤ c.gY_l.getD j 0 ∧ c.gY_l.getD j 0 ≤ 1073741824 := by
  simp only [validV, Bool.and_eq_true, beq_iff_eq] at h
  exact ⟨h.1.1, h.1.2, fun j hj => elB_iff.1 ((all_getD 0).1 h.2 j hj)⟩
theorem validV_no {c : Crv} (h : c.gX_n ≠ c.gY_n ∨ axisB c.gX_l = false ∨ c.gY_l.all elB = false) : validV c = false := by
  unfold validV
  rcases h with h | h | h
  · rw [beq_eq_false_iff_ne.2 h]; rfl
  · rw [h]; simp
  · rw [h]; simp
theorem validV_yes {c : Crv} (h1 : c.gX_n = c.gY_n) (h2 : axisB c.gX_l = true) (h3 : c.gY_l.all elB = true) : validV c = true := by unfold validV; rw [h1, h2, h3]; simp
def valueV (c : Crv) (x : Int) : Int := curveF c.gX_l c.gY_l x
def atV (c : Crv) (x : Int) : Int := if validV c then valueV c x else 0
theorem seg_found {l : List Int} {x r : Int} (ax : axisB l = true) (hx : l.getD 0 0 ≤ x ∧ x < l.getD (l.length - 1) 0) (h0 : 0 ≤ r ∧ r ≤ (l.length : Int)) (h1 : r = 0 ∨ decide (l.getD (r - 1).toNat 0 > x) = false) (h2 : r = (l.length : Int) ∨ decide (l.getD r.toNat 0 > x) = true) :
    (0 ≤ r - 1 ∧ r - 1 + 1 < (l.length : Int)) ∧ l.getD (r - 1).toNat 0 ≤ x ∧ x < l.getD (r - 1 + 1).toNat 0 := by
  have hl := (axis_facts ax).1
  have hr0 : r ≠ 0 := by
    intro e; subst e
    rcases h2 with h | h
    · omega
    · have := of_decide_eq_true h; simp only [Int.toNat_zero] at this; omega
  have h1' : l.getD (r - 1).toNat 0 ≤ x := by
    rcases h1 with h | h
    · exact absurd h hr0
    · rw [decide_eq_false_iff_not] at h; omega
  have hrn : r ≠ (l.length : Int) := by
    intro e
    rw [e, show ((l.length : Int) - 1).toNat = l.length - 1 by omega] at h1'; omega
  have h2' : l.getD r.toNat 0 > x := by
    rcases h2 with h | h
    · exact absurd h hrn
    · exact of_decide_eq_true h
  rw [show r - 1 + 1 = r by omega]
  exact ⟨by omega, h1', h2'⟩
theorem curve_mid {xs ys : List Int} {x i : Int} (ax : axisB xs = true) (hx : ¬ x ≤ xs.getD 0 0 ∧ ¬ xs.getD (xs.length - 1) 0 ≤ x) (h0 : 0 ≤ i ∧ i + 1 < (xs.length : Int)) (h1 : xs.getD i.toNat 0 ≤ x) (h2 : x < xs.getD (i + 1).toNat 0) :
    curveF xs ys x = ys.getD i.toNat 0 + (x - xs.getD i.toNat 0) * (ys.getD (i + 1).toNat 0 - ys.getD i.toNat 0) / (xs.getD (i + 1).toNat 0 - xs.getD i.toNat 0) := by
  have e : (i + 1).toNat = i.toNat + 1 := by omega
  rw [e] at h2 ⊢
  exact curve_seg ax (by omega) h1 (by omega) (.inl h2) (by omega)

theorem hb42 : HasBody Tryd.prog 42 := fun _ _ => by kernel_rfl
noncomputable def K42_0 : List Item := adv 9 [] (bodyOf Tryd.f42)
noncomputable def K42_1 : List Item := adv 5 [] K42_0
noncomputable def K42_2 : List Item := adv 5 [] K42_0
set_option maxRecDepth 20000 in
set_option maxHeartbeats 20000000 in
theorem cfar_any (n : Int) (w : World) : Ret Tryd.prog 42 #[.int .i64 n] w (fun v w' => v = .bool (!elB n) ∧ Sep w [] w') := by
  have S0 := Sep.refl w
  refine Ret.named fun R hR => ?_
  refine Ret.of_J (N := 9) [(0, .int .i64 n)] Tryd.func42 rfl rfl (Nat.le_of_ble_eq_true (by kernel_rfl)) (by kernel_rfl) ?_
  refine J.run 9 K42_0 [(5, .bool (decide (n < (-1073741824)))), (0, .int .i64 n)] w (by kernel_rfl) ?_
  by_cases fk1 : n < (-1073741824)
  · skip
    refine J.head (.bool true) (congrArg Value.bool (decide_eq_true fk1)) ?_
    refine J.run 5 K42_1 [(2, .bool true)] w (by kernel_rfl) ?_
    refine J.ret Tryd.f42 [.bool true] Tryd.func42 ⟨by kernel_rfl, trivial⟩ ?_
    refine hR _ _ ?_
    exact ⟨congrArg Value.bool (by rw [Bool.eq_iff_iff]; simp [elB]; omega), S0.nil⟩
  · skip
    refine J.head (.bool false) (congrArg Value.bool (decide_eq_false fk1)) ?_
    refine J.run 5 K42_2 [(2, .bool (decide (n > 1073741824)))] w (by kernel_rfl) ?_
    refine J.ret Tryd.f42 [.bool (decide (n > 1073741824))] Tryd.func42 ⟨by kernel_rfl, trivial⟩ ?_
    refine hR _ _ ?_
    exact ⟨congrArg Value.bool (by rw [Bool.eq_iff_iff]; simp [elB]; omega), S0.nil⟩

theorem hb57 : HasBody Tryd.prog 57 := fun _ _ => by kernel_rfl
noncomputable def K57_0 : List Item := adv 13 [] (bodyOf Tryd.f57)
noncomputable def K57_1 : List Item := adv 5 [] K57_0
noncomputable def K57_2 : List Item := adv 14 [true] K57_1
noncomputable def K57_3 : List Item := adv 1 [] (popK (popK (popK K57_2)))
noncomputable def K57_4 : List Item := adv 6 [true] K57_3
noncomputable def K57_5 : List Item := adv 5 [false] K57_3
noncomputable def K57_6 : List Item := adv 6 [false] K57_1
set_option maxRecDepth 20000 in
set_option maxHeartbeats 20000000 in
theorem indexI0 (la : Option Addr) (len cap : Nat) (l : List Int) (g : FuncId) (q : Int → Bool) (w : World) (hI : Ones (Value.int .i64) w la len l) (hlen : len ≤ 9223372036854775807) (hbg : HasBody Tryd.prog g) (hcall : ∀ (i : Nat) (w2 : World), i < l.length → Sep w [] w2 → Ret Tryd.prog g #[.int .i64 (l.getD i 0)] w2 (fun v w3 => v = .bool (q (l.getD i 0)) ∧ Sep w2 [] w3)) : Ret Tryd.prog 57 #[.slice la len cap, .func (.func g) #[] #[]] w (fun v w' => v = .int .i64 (indexF q l) ∧ Sep w [] w') := by
  have S0 := Sep.refl w
  refine Ret.named fun R hR => ?_
  refine Ret.of_J (N := 19) [(0, .slice la len cap), (1, .func (.func g) #[] #[])] Tryd.func57 rfl rfl (Nat.le_of_ble_eq_true (by kernel_rfl)) (by kernel_rfl) ?_
  refine J.run 13 K57_0 [(8, .int .i64 0), (7, .int .i64 (len : Int)), (0, .slice la len cap), (1, .func (.func g) #[] #[])] w (by kernel_rfl) ?_
  have L57_1 : ∀ (mm_ : Nat) (i : Int) (w1 : World), (0 ≤ i) → (i ≤ (len : Int)) → (∀ j, j < (i).toNat → q (l.getD j 0) = false) → Sep w [] w1 → ((len : Int) - i).toNat = mm_ → J Tryd.prog 57 19 R K57_0 [(8, .int .i64 i), (7, .int .i64 (len : Int)), (0, .slice la len cap), (1, .func (.func g) #[] #[])] w1 := by
    intro mm1
    induction mm1 using Nat.strongRecOn with
    | _ mm1 ih1 =>
    intro i w1 h0 h1 hq S1 hm1
    refine J.run 5 K57_1 [(9, .bool (decide (i < (len : Int)))), (8, .int .i64 i), (7, .int .i64 (len : Int)), (0, .slice la len cap), (1, .func (.func g) #[] #[])] w1 (by kernel_rfl) ?_
    by_cases fk1 : i < (len : Int)
    · skip
      refine J.head (.bool true) (congrArg Value.bool (decide_eq_true fk1)) ?_
      refine J.run 14 K57_2 [(13, .int .i64 i), (12, .slice la len cap), (11, .func (.func g) #[] #[]), (5, .int .i64 i), (8, .int .i64 i), (7, .int .i64 (len : Int)), (0, .slice la len cap), (1, .func (.func g) #[] #[])] w1 (by kernel_rfl) ?_
      obtain ⟨p1, hp1, hc1⟩ := hI.at 0 (i).toNat (by omega)
      refine J.ok (OK.index 14 22 1 la p1 len (i).toNat i (p1.add (i).toNat) (by kernel_rfl) (by kernel_rfl) hp1 (by omega) (by omega) (by rw [Nat.mul_one])) ?_
      refine J.ok (OK.ldCell 15 3 (p1.add (i).toNat) (.int .i64 (l.getD (i).toNat 0)) (by kernel_rfl) (by kernel_rfl) (S1.cell hc1)) ?_
      refine J.callF 16 g #[.int .i64 (l.getD (i).toNat 0)] hbg (by kernel_rfl) (hcall (i).toNat w1 (by have := hI.len_eq; omega) S1.nil) ?_
      rintro _ w2 ⟨rfl, T1⟩
      have S2 : Sep w [] w2 := S1.trans T1
      clear T1 S1
      refine J.run 1 K57_3 [(16, .bool (q (l.getD (i).toNat 0))), (5, .int .i64 i), (8, .int .i64 i), (7, .int .i64 (len : Int)), (0, .slice la len cap), (1, .func (.func g) #[] #[])] w2 (by kernel_rfl) ?_
      rcases Bool.eq_false_or_eq_true (q (l.getD (i).toNat 0)) with fk2 | fk2
      · skip
        refine J.head (.bool true) (congrArg Value.bool fk2) ?_
        refine J.run 6 K57_4 [(4, .int .i64 i)] w2 (by kernel_rfl) ?_
        refine J.ret Tryd.f57 [.int .i64 i] Tryd.func57 ⟨by kernel_rfl, trivial⟩ ?_
        refine hR _ _ ?_
        exact ⟨by rw [tup_one, indexF_some 0 i.toNat (by have := hI.len_eq; omega) hq fk2, Int.toNat_of_nonneg h0], S2.nil⟩
      · skip
        refine J.head (.bool false) (congrArg Value.bool fk2) ?_
        refine J.run 5 K57_5 [(18, .int .i64 (IntKind.wrap .i64 (i + 1))), (7, .int .i64 (len : Int)), (0, .slice la len cap), (1, .func (.func g) #[] #[])] w2 (by kernel_rfl) ?_
        refine J.head (.int .i64 (i + 1)) (congrArg (Value.int .i64) (IntWalk.i64_in _ (by omega))) ?_
        refine J.run 3 K57_0 [(8, .int .i64 (i + 1)), (7, .int .i64 (len : Int)), (0, .slice la len cap), (1, .func (.func g) #[] #[])] w2 (by kernel_rfl) ?_
        refine J.run 0 K57_0 [(8, .int .i64 (i + 1)), (7, .int .i64 (len : Int)), (0, .slice la len cap), (1, .func (.func g) #[] #[])] w2 (by kernel_rfl) ?_
        exact ih1 _ (show ((len : Int) - (i + 1)).toNat < mm1 from by omega) (i + 1) w2 (by omega) (by omega) (by intro j hj; by_cases e : j = i.toNat; (subst e; exact fk2); exact hq j (by omega)) S2 rfl
    · skip
      refine J.head (.bool false) (congrArg Value.bool (decide_eq_false fk1)) ?_
      refine J.run 6 K57_6 [(4, .int .i64 (-1))] w1 (by kernel_rfl) ?_
      refine J.ret Tryd.f57 [.int .i64 (-1)] Tryd.func57 ⟨by kernel_rfl, trivial⟩ ?_
      refine hR _ _ ?_
      exact ⟨by rw [tup_one, indexF_none 0 fun j hj => hq j (by have := hI.len_eq; omega)], S1.nil⟩
  exact L57_1 _ 0 w (by omega) (by omega) (by intro j hj; simp at hj) S0 rfl

theorem hb41 : HasBody Tryd.prog 41 := fun _ _ => by kernel_rfl
noncomputable def K41_0 : List Item := adv 8 [] (bodyOf Tryd.f41)
noncomputable def K41_1 : List Item := adv 3 [] (popK K41_0)
set_option maxRecDepth 20000 in
set_option maxHeartbeats 20000000 in
theorem containsI0 (la : Option Addr) (len cap : Nat) (l : List Int) (g : FuncId) (q : Int → Bool) (w : World) (hI : Ones (Value.int .i64) w la len l) (hlen : len ≤ 9223372036854775807) (hbg : HasBody Tryd.prog g) (hcall : ∀ (i : Nat) (w2 : World), i < l.length → Sep w [] w2 → Ret Tryd.prog g #[.int .i64 (l.getD i 0)] w2 (fun v w3 => v = .bool (q (l.getD i 0)) ∧ Sep w2 [] w3)) : Ret Tryd.prog 41 #[.slice la len cap, .func (.func g) #[] #[]] w (fun v w' => v = .bool (l.any q) ∧ Sep w [] w') := by
  have S0 := Sep.refl w
  refine Ret.named fun R hR => ?_
  refine Ret.of_J (N := 9) [(0, .slice la len cap), (1, .func (.func g) #[] #[])] Tryd.func41 rfl rfl (Nat.le_of_ble_eq_true (by kernel_rfl)) (by kernel_rfl) ?_
  refine J.run 8 K41_0 [(6, .func (.func g) #[] #[]), (5, .slice la len cap)] w (by kernel_rfl) ?_
  refine J.callF 7 57 #[.slice la len cap, .func (.func g) #[] #[]] hb57 (by kernel_rfl) (indexI0 la len cap l g  q _ (hI.sep S0) (by first | omega | (simp; omega)) hbg (hcall)) ?_
  rintro _ w1 ⟨rfl, T1⟩
  have S1 : Sep w [] w1 := S0.trans T1
  clear T1
  refine J.run 3 K41_1 [(4, .bool (decide ((indexF q l) ≥ 0)))] w1 (by kernel_rfl) ?_
  refine J.ret Tryd.f41 [.bool (decide ((indexF q l) ≥ 0))] Tryd.func41 ⟨by kernel_rfl, trivial⟩ ?_
  refine hR _ _ ?_
  exact ⟨congrArg Value.bool (by first | exact indexF_nonneg), S1.nil⟩

theorem hb35 : HasBody Tryd.prog 35 := fun _ _ => by kernel_rfl
noncomputable def K35a_0 : List Item := adv 13 [] (bodyOf Tryd.f35)
noncomputable def K35a_1 : List Item := adv 7 [] K35a_0
noncomputable def K35a_2 : List Item := adv 8 [true] K35a_1
noncomputable def K35a_3 : List Item := adv 1 [] K35a_2
noncomputable def K35a_4 : List Item := adv 1 [] K35a_3
noncomputable def K35a_5 : List Item := adv 1 [] K35a_4
noncomputable def K35a_6 : List Item := adv 6 [] K35a_5
noncomputable def K35a_7 : List Item := adv 2 [] (popK K35a_6)
noncomputable def K35a_8 : List Item := adv 4 [true] K35a_7
noncomputable def K35a_9 : List Item := adv 7 [false] K35a_1
set_option maxRecDepth 20000 in
set_option maxHeartbeats 20000000 in
theorem search2 (n : Int) (g : FuncId) (c1 : Value) (c2 : Value) (q : Int → Bool) (w : World) (hn : 0 ≤ n ∧ n ≤ 4611686018427387903) (hbg : HasBody Tryd.prog g) (hcall : ∀ (i : Int) (w2 : World), 0 ≤ i → i < n → Sep w [] w2 → Ret Tryd.prog g #[.int .i64 i, c1, c2] w2 (fun v w3 => v = .bool (q i) ∧ Sep w2 [] w3)) : Ret Tryd.prog 35 #[.int .i64 n, .func (.func g) #[] #[c1, c2]] w (fun v w' => ∃ r, v = .int .i64 r ∧ (0 ≤ r ∧ r ≤ n) ∧ (r = 0 ∨ q (r - 1) = false) ∧ (r = n ∨ q r = true) ∧ Sep w [] w') := by
  have S0 := Sep.refl w
  refine Ret.named fun R hR => ?_
  refine Ret.of_J (N := 26) [(0, .int .i64 n), (1, .func (.func g) #[] #[c1, c2])] Tryd.func35 rfl rfl (Nat.le_of_ble_eq_true (by kernel_rfl)) (by kernel_rfl) ?_
  refine J.run 13 K35a_0 [(6, .int .i64 n), (5, .int .i64 0), (1, .func (.func g) #[] #[c1, c2])] w (by kernel_rfl) ?_
  have L35_1 : ∀ (mm_ : Nat) (i : Int) (j : Int) (w1 : World), (0 ≤ i ∧ i ≤ j ∧ j ≤ n) → (i = 0 ∨ q (i - 1) = false) → (j = n ∨ q j = true) → Sep w [] w1 → (j - i).toNat = mm_ → J Tryd.prog 35 26 R K35a_0 [(6, .int .i64 j), (5, .int .i64 i), (1, .func (.func g) #[] #[c1, c2])] w1 := by
    intro mm1
    induction mm1 using Nat.strongRecOn with
    | _ mm1 ih1 =>
    intro i j w1 hb hi hj S1 hm1
    refine J.run 7 K35a_1 [(11, .bool (decide (i < j))), (6, .int .i64 j), (5, .int .i64 i), (1, .func (.func g) #[] #[c1, c2])] w1 (by kernel_rfl) ?_
    by_cases fk1 : i < j
    · skip
      refine J.head (.bool true) (congrArg Value.bool (decide_eq_true fk1)) ?_
      refine J.run 8 K35a_2 [(14, .int .i64 (IntKind.wrap .i64 (i + j))), (6, .int .i64 j), (5, .int .i64 i), (1, .func (.func g) #[] #[c1, c2])] w1 (by kernel_rfl) ?_
      refine J.head (.int .i64 (i + j)) (congrArg (Value.int .i64) (IntWalk.i64_in _ (by omega))) ?_
      refine J.run 1 K35a_3 [(15, .int .u64 (IntKind.wrap .u64 (i + j))), (6, .int .i64 j), (5, .int .i64 i), (1, .func (.func g) #[] #[c1, c2])] w1 (by kernel_rfl) ?_
      refine J.head (.int .u64 (i + j)) (congrArg (Value.int .u64) (IntWalk.u64_in _ (by omega))) ?_
      refine J.run 1 K35a_4 [(16, .int .u64 (Int.fdiv (i + j) (2 ^ 1))), (6, .int .i64 j), (5, .int .i64 i), (1, .func (.func g) #[] #[c1, c2])] w1 (by kernel_rfl) ?_
      refine J.head (.int .u64 ((i + j) / 2)) (congrArg (Value.int .u64) (shr_lit _ _ (by decide))) ?_
      refine J.run 1 K35a_5 [(17, .int .i64 (IntKind.wrap .i64 ((i + j) / 2))), (6, .int .i64 j), (5, .int .i64 i), (1, .func (.func g) #[] #[c1, c2])] w1 (by kernel_rfl) ?_
      refine J.head (.int .i64 ((i + j) / 2)) (congrArg (Value.int .i64) (IntWalk.i64_in _ (by omega))) ?_
      obtain ⟨mid, hmid⟩ : ∃ x : Int, x = (i + j) / 2 := ⟨_, rfl⟩
      refine J.head (.int .i64 mid) (congrArg (Value.int .i64) hmid.symm) ?_
      refine J.run 6 K35a_6 [(19, .int .i64 mid), (18, .func (.func g) #[] #[c1, c2]), (7, .int .i64 mid), (6, .int .i64 j), (5, .int .i64 i), (1, .func (.func g) #[] #[c1, c2])] w1 (by kernel_rfl) ?_
      refine J.callF 20 g #[.int .i64 mid, c1, c2] hbg (by kernel_rfl) (hcall mid w1 (by omega) (by omega) S1.nil) ?_
      rintro _ w2 ⟨rfl, T1⟩
      have S2 : Sep w [] w2 := S1.trans T1
      refine J.run 2 K35a_7 [(21, .bool (!(q mid))), (7, .int .i64 mid), (6, .int .i64 j), (5, .int .i64 i), (1, .func (.func g) #[] #[c1, c2])] w2 (by kernel_rfl) ?_
      rcases Bool.eq_false_or_eq_true (q mid) with fk2 | fk2
      · skip
        refine J.head (.bool false) (congrArg Value.bool (by rw [fk2]; rfl)) ?_
        refine J.run 7 K35a_0 [(6, .int .i64 mid), (5, .int .i64 i), (1, .func (.func g) #[] #[c1, c2])] w2 (by kernel_rfl) ?_
        refine J.run 0 K35a_0 [(6, .int .i64 mid), (5, .int .i64 i), (1, .func (.func g) #[] #[c1, c2])] w2 (by kernel_rfl) ?_
        exact ih1 _ (show (mid - i).toNat < mm1 from by omega) i mid w2 (by omega) (hi) (.inr fk2) S2 rfl
      · skip
        refine J.head (.bool true) (congrArg Value.bool (by rw [fk2]; rfl)) ?_
        refine J.run 4 K35a_8 [(23, .int .i64 (IntKind.wrap .i64 (mid + 1))), (6, .int .i64 j), (1, .func (.func g) #[] #[c1, c2])] w2 (by kernel_rfl) ?_
        refine J.head (.int .i64 (mid + 1)) (congrArg (Value.int .i64) (IntWalk.i64_in _ (by omega))) ?_
        refine J.run 4 K35a_0 [(5, .int .i64 (mid + 1)), (6, .int .i64 j), (1, .func (.func g) #[] #[c1, c2])] w2 (by kernel_rfl) ?_
        refine J.run 0 K35a_0 [(6, .int .i64 j), (5, .int .i64 (mid + 1)), (1, .func (.func g) #[] #[c1, c2])] w2 (by kernel_rfl) ?_
        exact ih1 _ (show (j - (mid + 1)).toNat < mm1 from by omega) (mid + 1) j w2 (by omega) (.inr (by rw [show mid + 1 - 1 = mid by omega]; exact fk2)) (hj) S2 rfl
    · skip
      refine J.head (.bool false) (congrArg Value.bool (decide_eq_false fk1)) ?_
      refine J.run 7 K35a_9 [(4, .int .i64 i)] w1 (by kernel_rfl) ?_
      refine J.ret Tryd.f35 [.int .i64 i] Tryd.func35 ⟨by kernel_rfl, trivial⟩ ?_
      refine hR _ _ ?_
      exact ⟨i, rfl, by omega, hi, by rw [show i = j by omega]; exact hj, S1.nil⟩
  exact L35_1 _ 0 n w (by omega) (.inl rfl) (.inl rfl) S0 rfl

theorem hb40 : HasBody Tryd.prog 40 := fun _ _ => by kernel_rfl
noncomputable def K40_0 : List Item := adv 11 [] (bodyOf Tryd.f40)
noncomputable def K40_1 : List Item := adv 14 [true] K40_0
noncomputable def K40_2 : List Item := adv 5 [] K40_0
noncomputable def K40_3 : List Item := adv 9 [true] K40_2
noncomputable def K40_4 : List Item := adv 1 [] K40_2
noncomputable def K40_5 : List Item := adv 2 [] (popK K40_4)
noncomputable def K40_6 : List Item := adv 5 [true] K40_5
noncomputable def K40_7 : List Item := adv 8 [false] K40_5
noncomputable def K40_8 : List Item := adv 4 [] K40_7
noncomputable def K40_9 : List Item := adv 5 [] K40_8
noncomputable def K40_10 : List Item := adv 10 [true] K40_9
noncomputable def K40_11 : List Item := adv 5 [true] (rRest K40_10)
noncomputable def K40_12 : List Item := adv 5 [false] (rRest K40_10)
noncomputable def K40_13 : List Item := adv 6 [false] K40_9
set_option maxRecDepth 20000 in
set_option maxHeartbeats 20000000 in
theorem caxis_any (la : Option Addr) (len cap : Nat) (l : List Int) (w : World) (hI : Ints w la len l) (hlen : len ≤ 9223372036854775807) : Ret Tryd.prog 40 #[.slice la len cap] w (fun v w' => v = .bool (axisB l) ∧ Sep w [] w') := by
  have S0 := Sep.refl w
  refine Ret.named fun R hR => ?_
  refine Ret.of_J (N := 33) [(0, .slice la len cap)] Tryd.func40 rfl rfl (Nat.le_of_ble_eq_true (by kernel_rfl)) (by kernel_rfl) ?_
  have hll := hI.len_eq
  refine J.run 11 K40_0 [(7, .bool (decide ((len : Int) < 2))), (0, .slice la len cap)] w (by kernel_rfl) ?_
  by_cases fk1 : (len : Int) < 2
  · skip
    refine J.head (.bool true) (congrArg Value.bool (decide_eq_true fk1)) ?_
    refine J.run 14 K40_1 [(2, .bool false)] w (by kernel_rfl) ?_
    refine J.ret Tryd.f40 [.bool false] Tryd.func40 ⟨by kernel_rfl, trivial⟩ ?_
    refine hR _ _ ?_
    exact ⟨congrArg Value.bool (axis_no (by omega)).symm, S0.nil⟩
  · skip
    refine J.head (.bool false) (congrArg Value.bool (decide_eq_false fk1)) ?_
    refine J.run 5 K40_2 [(12, .bool (decide ((len : Int) > 32))), (0, .slice la len cap)] w (by kernel_rfl) ?_
    by_cases fk2 : (len : Int) > 32
    · skip
      refine J.head (.bool true) (congrArg Value.bool (decide_eq_true fk2)) ?_
      refine J.run 9 K40_3 [(2, .bool false)] w (by kernel_rfl) ?_
      refine J.ret Tryd.f40 [.bool false] Tryd.func40 ⟨by kernel_rfl, trivial⟩ ?_
      refine hR _ _ ?_
      exact ⟨congrArg Value.bool (axis_no (by omega)).symm, S0.nil⟩
    · skip
      refine J.head (.bool false) (congrArg Value.bool (decide_eq_false fk2)) ?_
      refine J.run 1 K40_4 [(13, .slice la len cap), (12, .bool false), (0, .slice la len cap)] w (by kernel_rfl) ?_
      refine J.callF 14 41 #[.slice la len cap, .func (.func 42) #[] #[]] hb41 (by kernel_rfl) (containsI0 la len cap l 42  (fun x => !elB x) _ (hI.sep S0) (by first | omega | (simp; omega)) hb42 (fun i_ w_ hi_ S_ => cfar_any _ w_)) ?_
      rintro _ w1 ⟨rfl, T1⟩
      have S1 : Sep w [] w1 := S0.trans T1
      clear T1
      refine J.run 2 K40_5 [(15, .bool (List.any l (fun x => !elB x))), (0, .slice la len cap)] w1 (by kernel_rfl) ?_
      rcases Bool.eq_false_or_eq_true (List.any l (fun x => !elB x)) with fk3 | fk3
      · skip
        refine J.head (.bool true) (congrArg Value.bool fk3) ?_
        refine J.run 5 K40_6 [(2, .bool false)] w1 (by kernel_rfl) ?_
        refine J.ret Tryd.f40 [.bool false] Tryd.func40 ⟨by kernel_rfl, trivial⟩ ?_
        refine hR _ _ ?_
        exact ⟨congrArg Value.bool (axis_far (by have h_ := fk3; rw [any_not_all] at h_; simpa using h_)).symm, S1.nil⟩
      · skip
        refine J.head (.bool false) (congrArg Value.bool fk3) ?_
        refine J.run 8 K40_7 [(18, .int .i64 (IntKind.wrap .i64 ((len : Int) - 1))), (0, .slice la len cap)] w1 (by kernel_rfl) ?_
        refine J.head (.int .i64 ((len : Int) - 1)) (congrArg (Value.int .i64) (IntWalk.i64_in _ (by omega))) ?_
        refine J.run 4 K40_8 [(19, .int .i64 0), (18, .int .i64 ((len : Int) - 1)), (0, .slice la len cap)] w1 (by kernel_rfl) ?_
        have L40_1 : ∀ (mm_ : Nat) (i : Int) (w2 : World), (0 ≤ i) → (i + 1 ≤ (len : Int)) → (∀ j, j < (i).toNat → l.getD j 0 < l.getD (j + 1) 0) → Sep w [] w2 → ((len : Int) - i).toNat = mm_ → J Tryd.prog 40 33 R K40_8 [(19, .int .i64 i), (18, .int .i64 ((len : Int) - 1)), (0, .slice la len cap)] w2 := by
          intro mm1
          induction mm1 using Nat.strongRecOn with
          | _ mm1 ih1 =>
          intro i w2 h0 h1 hq S2 hm1
          refine J.run 5 K40_9 [(20, .bool (decide (i < ((len : Int) - 1)))), (19, .int .i64 i), (18, .int .i64 ((len : Int) - 1)), (0, .slice la len cap)] w2 (by kernel_rfl) ?_
          by_cases fk4 : i < ((len : Int) - 1)
          · skip
            refine J.head (.bool true) (congrArg Value.bool (decide_eq_true fk4)) ?_
            refine J.run 10 K40_10 [(3, .int .i64 i), (19, .int .i64 i), (18, .int .i64 ((len : Int) - 1)), (0, .slice la len cap)] w2 (by kernel_rfl) ?_
            obtain ⟨p1, hp1, hc1⟩ := hI.at 0 (i).toNat (by omega)
            obtain ⟨p2, hp2, hc2⟩ := hI.at 0 (i + 1).toNat (by omega)
            refine J.drawStill S2 10 Tryd.mixed (by kernel_rfl) (by kernel_rfl) (by kernel_rfl) ?_
            intro w3 S3
            refine SL.ok (by decide) (OK.run 22 (.slice la len cap) (by kernel_rfl)) ?_
            refine SL.ok (by decide) (OK.run 23 (.int .i64 i) (by kernel_rfl)) ?_
            refine SL.ok (by decide) (OK.index 24 22 1 la p1 len (i).toNat i (p1.add (i).toNat) (by kernel_rfl) (by kernel_rfl) hp1 (by omega) (by omega) (by rw [Nat.mul_one])) ?_
            refine SL.ok (by decide) (OK.ldCell 25 3 (p1.add (i).toNat) (.int .i64 (l.getD (i).toNat 0)) (by kernel_rfl) (by kernel_rfl) (S3.cell hc1)) ?_
            refine SL.ok (by decide) (OK.run 26 (.slice la len cap) (by kernel_rfl)) ?_
            refine SL.ok (by decide) (OK.run 27 (.int .i64 i) (by kernel_rfl)) ?_
            refine SL.ok (by decide) (OK.run 28 (.int .i64 (IntKind.wrap .i64 (i + 1))) (by kernel_rfl)) ?_
            refine SL.head (.int .i64 (i + 1)) (congrArg (Value.int .i64) (IntWalk.i64_in _ (by omega))) ?_
            refine SL.ok (by decide) (OK.index 29 22 1 la p2 len (i + 1).toNat (i + 1) (p2.add (i + 1).toNat) (by kernel_rfl) (by kernel_rfl) hp2 (by omega) (by omega) (by rw [Nat.mul_one])) ?_
            refine SL.ok (by decide) (OK.ldCell 30 3 (p2.add (i + 1).toNat) (.int .i64 (l.getD (i + 1).toNat 0)) (by kernel_rfl) (by kernel_rfl) (S3.cell hc2)) ?_
            refine SL.ok (by decide) (OK.run 31 (.bool (decide ((l.getD (i).toNat 0) ≥ (l.getD (i + 1).toNat 0)))) (by kernel_rfl)) ?_
            refine SL.done ?_
            refine TL.done (by kernel_rfl) ?_
            refine J.run 0 (rRest K40_10) [(31, .bool (decide ((l.getD (i).toNat 0) ≥ (l.getD (i + 1).toNat 0)))), (19, .int .i64 i), (18, .int .i64 ((len : Int) - 1)), (0, .slice la len cap)] w3 (by kernel_rfl) ?_
            by_cases fk5 : (l.getD (i).toNat 0) ≥ (l.getD (i + 1).toNat 0)
            · skip
              refine J.head (.bool true) (congrArg Value.bool (decide_eq_true fk5)) ?_
              refine J.run 5 K40_11 [(2, .bool false)] w3 (by kernel_rfl) ?_
              refine J.ret Tryd.f40 [.bool false] Tryd.func40 ⟨by kernel_rfl, trivial⟩ ?_
              refine hR _ _ ?_
              exact ⟨congrArg Value.bool (axis_down h0 (by omega) (by omega)).symm, S3.nil⟩
            · skip
              refine J.head (.bool false) (congrArg Value.bool (decide_eq_false fk5)) ?_
              refine J.run 5 K40_12 [(32, .int .i64 (IntKind.wrap .i64 (i + 1))), (18, .int .i64 ((len : Int) - 1)), (0, .slice la len cap)] w3 (by kernel_rfl) ?_
              refine J.head (.int .i64 (i + 1)) (congrArg (Value.int .i64) (IntWalk.i64_in _ (by omega))) ?_
              refine J.run 3 K40_8 [(19, .int .i64 (i + 1)), (18, .int .i64 ((len : Int) - 1)), (0, .slice la len cap)] w3 (by kernel_rfl) ?_
              refine J.run 0 K40_8 [(19, .int .i64 (i + 1)), (18, .int .i64 ((len : Int) - 1)), (0, .slice la len cap)] w3 (by kernel_rfl) ?_
              exact ih1 _ (show ((len : Int) - (i + 1)).toNat < mm1 from by omega) (i + 1) w3 (by omega) (by omega) (all_step (q := fun j => l.getD j 0 < l.getD (j + 1) 0) h0 hq (by rw [show i.toNat + 1 = (i + 1).toNat by omega]; omega)) S3 rfl
          · skip
            refine J.head (.bool false) (congrArg Value.bool (decide_eq_false fk4)) ?_
            refine J.run 6 K40_13 [(2, .bool true)] w2 (by kernel_rfl) ?_
            refine J.ret Tryd.f40 [.bool true] Tryd.func40 ⟨by kernel_rfl, trivial⟩ ?_
            refine hR _ _ ?_
            exact ⟨congrArg Value.bool (axis_adj (by omega) (by omega) (by have h_ := fk3; rw [any_not_all] at h_; simpa using h_) fun j hj => hq j (by omega)).symm, S2.nil⟩
        exact L40_1 _ 0 w1 (by omega) (by omega) (by intro j hj; simp at hj) S1 rfl

theorem hb16 : HasBody Tryd.prog 16 := fun _ _ => by kernel_rfl
noncomputable def K16_0 : List Item := adv 2 [] (bodyOf Tryd.f16)
noncomputable def K16_1 : List Item := adv 5 [] (popK K16_0)
noncomputable def K16_2 : List Item := adv 2 [] (popK K16_1)
noncomputable def K16_3 : List Item := adv 3 [] (popK K16_2)
noncomputable def K16_4 : List Item := adv 1 [] K16_3
noncomputable def K16_5 : List Item := adv 2 [] (popK (popK K16_4))
noncomputable def K16_6 : List Item := adv 1 [] K16_5
noncomputable def K16_7 : List Item := adv 4 [] (popK (popK K16_6))
noncomputable def K16_8 : List Item := adv 7 [] K16_5
noncomputable def K16_9 : List Item := adv 12 [] K16_3
set_option maxRecDepth 20000 in
set_option maxHeartbeats 20000000 in
theorem cvalid_any (c : Crv) (w : World) (hc : crvQ w c) : Ret Tryd.prog 16 #[.agg #[.slice c.gX_a c.gX_n c.gX_c, .slice c.gY_a c.gY_n c.gY_c]] w (fun v w' => v = .bool (validV c) ∧ Sep w [] w') := by
  have S0 := Sep.refl w
  refine Ret.named fun R hR => ?_
  refine Ret.of_J (N := 21) [(0, .agg #[.slice c.gX_a c.gX_n c.gX_c, .slice c.gY_a c.gY_n c.gY_c])] Tryd.func16 rfl rfl (Nat.le_of_ble_eq_true (by kernel_rfl)) (by kernel_rfl) ?_
  obtain ⟨q1, q2, q3, q4, q5, q6, _⟩ := id hc
  have ql1 := q2.len_eq
  have ql2 := q5.len_eq
  refine J.run 2 K16_0 [(0, .agg #[.slice c.gX_a c.gX_n c.gX_c, .slice c.gY_a c.gY_n c.gY_c])] w (by kernel_rfl) ?_
  refine J.new S0 1 [.slice c.gX_a c.gX_n c.gX_c, .slice c.gY_a c.gY_n c.gY_c] 24 (by kernel_rfl) ?_
  intro b1 w1 S1
  refine J.run 5 K16_1 [(3, .pointer (some ⟨b1, 0, none⟩)), (1, .pointer (some ⟨b1, 0, none⟩))] w1 (by kernel_rfl) ?_
  refine J.ok (OK.ldBox S1 0 4 22 0 (.slice c.gX_a c.gX_n c.gX_c) (by kernel_rfl) rfl (by kernel_rfl)) ?_
  refine J.run 2 K16_2 [(6, .pointer (some ⟨b1, 1, none⟩)), (5, .int .i64 (c.gX_n : Int)), (1, .pointer (some ⟨b1, 0, none⟩))] w1 (by kernel_rfl) ?_
  refine J.ok (OK.ldBox S1 0 7 22 1 (.slice c.gY_a c.gY_n c.gY_c) (by kernel_rfl) rfl (by kernel_rfl)) ?_
  refine J.run 3 K16_3 [(10, .bool ((c.gX_n : Int) == (c.gY_n : Int))), (1, .pointer (some ⟨b1, 0, none⟩))] w1 (by kernel_rfl) ?_
  by_cases fk1 : (c.gX_n : Int) = (c.gY_n : Int)
  · skip
    refine J.head (.bool true) (congrArg Value.bool (beq_iff_eq.2 fk1)) ?_
    refine J.run 1 K16_4 [(11, .pointer (some ⟨b1, 0, none⟩)), (10, .bool true), (1, .pointer (some ⟨b1, 0, none⟩))] w1 (by kernel_rfl) ?_
    refine J.ok (OK.ldBox S1 0 12 22 0 (.slice c.gX_a c.gX_n c.gX_c) (by kernel_rfl) rfl (by kernel_rfl)) ?_
    refine J.callF 13 40 #[.slice c.gX_a c.gX_n c.gX_c] hb40 (by kernel_rfl) (caxis_any c.gX_a c.gX_n c.gX_c c.gX_l _ (q2.sep S1) (by first | omega | (simp; omega))) ?_
    rintro _ w2 ⟨rfl, T1⟩
    have S2 : Sep w [box b1 [.slice c.gX_a c.gX_n c.gX_c, .slice c.gY_a c.gY_n c.gY_c] 24] w2 := S1.trans T1
    clear T1 S1
    refine J.run 2 K16_5 [(15, .bool (axisB c.gX_l)), (1, .pointer (some ⟨b1, 0, none⟩))] w2 (by kernel_rfl) ?_
    rcases Bool.eq_false_or_eq_true (axisB c.gX_l) with fk2 | fk2
    · skip
      refine J.head (.bool true) (congrArg Value.bool fk2) ?_
      refine J.run 1 K16_6 [(16, .pointer (some ⟨b1, 1, none⟩)), (15, .bool true)] w2 (by kernel_rfl) ?_
      refine J.ok (OK.ldBox S2 0 17 22 1 (.slice c.gY_a c.gY_n c.gY_c) (by kernel_rfl) rfl (by kernel_rfl)) ?_
      refine J.callF 18 41 #[.slice c.gY_a c.gY_n c.gY_c, .func (.func 42) #[] #[]] hb41 (by kernel_rfl) (containsI0 c.gY_a c.gY_n c.gY_c c.gY_l 42  (fun x => !elB x) _ (q5.sep S2) (by first | omega | (simp; omega)) hb42 (fun i_ w_ hi_ S_ => cfar_any _ w_)) ?_
      rintro _ w3 ⟨rfl, T2⟩
      have S3 : Sep w [box b1 [.slice c.gX_a c.gX_n c.gX_c, .slice c.gY_a c.gY_n c.gY_c] 24] w3 := S2.trans T2
      clear T2 S2
      refine J.run 4 K16_7 [(2, .bool (!(List.any c.gY_l (fun x => !elB x))))] w3 (by kernel_rfl) ?_
      refine J.ret Tryd.f16 [.bool (!(List.any c.gY_l (fun x => !elB x)))] Tryd.func16 ⟨by kernel_rfl, trivial⟩ ?_
      refine hR _ _ ?_
      exact ⟨congrArg Value.bool (by unfold validV; rw [fk2, show c.gX_n = c.gY_n by omega, any_not_all]; simp), S3.nil⟩
    · skip
      refine J.head (.bool false) (congrArg Value.bool fk2) ?_
      refine J.run 7 K16_8 [(2, .bool false)] w2 (by kernel_rfl) ?_
      refine J.ret Tryd.f16 [.bool false] Tryd.func16 ⟨by kernel_rfl, trivial⟩ ?_
      refine hR _ _ ?_
      exact ⟨congrArg Value.bool (validV_no (by first | exact .inr (.inl fk2) | exact .inl (by omega))).symm, S2.nil⟩
  · skip
    refine J.head (.bool false) (congrArg Value.bool (beq_eq_false_iff_ne.2 fk1)) ?_
    refine J.run 12 K16_9 [(2, .bool false)] w1 (by kernel_rfl) ?_
    refine J.ret Tryd.f16 [.bool false] Tryd.func16 ⟨by kernel_rfl, trivial⟩ ?_
    refine hR _ _ ?_
    exact ⟨congrArg Value.bool (validV_no (by first | exact .inr (.inl rfl) | exact .inl (by omega))).symm, S1.nil⟩

theorem hb59 : HasBody Tryd.prog 59 := fun _ _ => by kernel_rfl
noncomputable def K59_0 : List Item := adv 5 [] (bodyOf Tryd.f59)
set_option maxRecDepth 20000 in
set_option maxHeartbeats 20000000 in
theorem cseg1_any (c : Crv) (x i : Int) (bx1 bx2 : Nat) (w : World) (hc : crvQ w c) (hi : 0 ≤ i ∧ i < (c.gX_n : Int)) (hb1 : (box bx1 [.slice c.gX_a c.gX_n c.gX_c, .slice c.gY_a c.gY_n c.gY_c] 24).holds w) (hb2 : (box bx2 [.int .i64 x] 3).holds w) : Ret Tryd.prog 59 #[.int .i64 i, .pointer (some ⟨bx1, 0, none⟩), .pointer (some ⟨bx2, 0, none⟩)] w (fun v w' => v = .bool (decide (c.gX_l.getD i.toNat 0 > x)) ∧ Sep w [] w') := by
  have S0 := Sep.refl w
  refine Ret.named fun R hR => ?_
  refine Ret.of_J (N := 12) [(0, .int .i64 i), (1, .pointer (some ⟨bx1, 0, none⟩)), (2, .pointer (some ⟨bx2, 0, none⟩))] Tryd.func59 rfl rfl (Nat.le_of_ble_eq_true (by kernel_rfl)) (by kernel_rfl) ?_
  obtain ⟨q1, q2, q3, q4, q5, q6, _⟩ := id hc
  have ql1 := q2.len_eq
  have ql2 := q5.len_eq
  refine J.run 5 K59_0 [(0, .int .i64 i), (1, .pointer (some ⟨bx1, 0, none⟩)), (2, .pointer (some ⟨bx2, 0, none⟩))] w (by kernel_rfl) ?_
  obtain ⟨p1, hp1, hc1⟩ := q2.at 0 (i).toNat (by omega)
  have hel1 := getD_Q q3 0 (n := (i).toNat) (by have := q2.len_eq; omega)
  refine J.drawStill S0 8 Tryd.mixed (by kernel_rfl) (by kernel_rfl) (by kernel_rfl) ?_
  intro w1 S1
  refine SL.ok (by decide) (OK.run 5 (.pointer (some ⟨bx1, 0, none⟩)) (by kernel_rfl)) ?_
  refine SL.ok (by decide) (OK.ldRo S1 hb1 6 22 0 (.slice c.gX_a c.gX_n c.gX_c) (by kernel_rfl) (by kernel_rfl)) ?_
  refine SL.ok (by decide) (OK.run 7 (.int .i64 i) (by kernel_rfl)) ?_
  refine SL.ok (by decide) (OK.index 8 22 1 c.gX_a p1 c.gX_n (i).toNat i (p1.add (i).toNat) (by kernel_rfl) (by kernel_rfl) hp1 (by omega) (by omega) (by rw [Nat.mul_one])) ?_
  refine SL.ok (by decide) (OK.ldCell 9 3 (p1.add (i).toNat) (.int .i64 (c.gX_l.getD (i).toNat 0)) (by kernel_rfl) (by kernel_rfl) (S1.cell hc1)) ?_
  refine SL.ok (by decide) (OK.ldRo S1 hb2 10 3 0 (.int .i64 x) (by kernel_rfl) (by kernel_rfl)) ?_
  refine SL.ok (by decide) (OK.run 11 (.bool (decide ((c.gX_l.getD (i).toNat 0) > x))) (by kernel_rfl)) ?_
  refine SL.ok (by decide) (OK.run 4 (.bool (decide ((c.gX_l.getD (i).toNat 0) > x))) (by kernel_rfl)) ?_
  refine SL.done ?_
  refine TL.done (by kernel_rfl) ?_
  refine J.run 0 (rRest K59_0) [(4, .bool (decide ((c.gX_l.getD (i).toNat 0) > x)))] w1 (by kernel_rfl) ?_
  refine J.ret Tryd.f59 [.bool (decide ((c.gX_l.getD (i).toNat 0) > x))] Tryd.func59 ⟨by kernel_rfl, trivial⟩ ?_
  refine hR _ _ ?_
  exact ⟨rfl, S1.nil⟩

theorem hb46 : HasBody Tryd.prog 46 := fun _ _ => by kernel_rfl
noncomputable def K46_0 : List Item := adv 2 [] (bodyOf Tryd.f46)
noncomputable def K46_1 : List Item := adv 5 [] (popK (popK K46_0))
noncomputable def K46_2 : List Item := adv 2 [] (popK K46_1)
noncomputable def K46_3 : List Item := adv 1 [] (popK K46_2)
noncomputable def K46_4 : List Item := adv 2 [] K46_3
set_option maxRecDepth 20000 in
set_option maxHeartbeats 20000000 in
theorem csegment_any (c : Crv) (x : Int) (w : World) (hc : crvQ w c) (hv : validV c = true) (hxx : c.gX_l.getD 0 0 ≤ x ∧ x < c.gX_l.getD (c.gX_l.length - 1) 0) : Ret Tryd.prog 46 #[.agg #[.slice c.gX_a c.gX_n c.gX_c, .slice c.gY_a c.gY_n c.gY_c], .int .i64 x] w (fun v w' => ∃ i, v = .int .i64 i ∧ ((0 ≤ i ∧ i + 1 < (c.gX_l.length : Int)) ∧ c.gX_l.getD i.toNat 0 ≤ x ∧ x < c.gX_l.getD (i + 1).toNat 0) ∧ Sep w [] w') := by
  have S0 := Sep.refl w
  refine Ret.named fun R hR => ?_
  refine Ret.of_J (N := 11) [(0, .agg #[.slice c.gX_a c.gX_n c.gX_c, .slice c.gY_a c.gY_n c.gY_c]), (1, .int .i64 x)] Tryd.func46 rfl rfl (Nat.le_of_ble_eq_true (by kernel_rfl)) (by kernel_rfl) ?_
  obtain ⟨q1, q2, q3, q4, q5, q6, _⟩ := id hc
  have ql1 := q2.len_eq
  have ql2 := q5.len_eq
  obtain ⟨hv1, hv2, hv3⟩ := validV_facts hv
  obtain ⟨hx1, hx2, hx3⟩ := axis_facts hv2
  have hX : c.gX_l.length = c.gX_n := by omega
  have hY : c.gY_l.length = c.gX_n := by omega
  have hxm := axis_mono hv2 (show 0 < ((c.gX_n : Int) - 1).toNat by omega) (by omega)
  have hx0 := hx2 0 (by omega)
  have hxl := hx2 ((c.gX_n : Int) - 1).toNat (by omega)
  refine J.run 2 K46_0 [(0, .agg #[.slice c.gX_a c.gX_n c.gX_c, .slice c.gY_a c.gY_n c.gY_c]), (1, .int .i64 x)] w (by kernel_rfl) ?_
  refine J.new S0 2 [.slice c.gX_a c.gX_n c.gX_c, .slice c.gY_a c.gY_n c.gY_c] 24 (by kernel_rfl) ?_
  intro b1 w1 S1
  refine J.new S1 3 [.int .i64 x] 3 (by kernel_rfl) ?_
  intro b2 w2 S2
  refine J.run 5 K46_1 [(5, .pointer (some ⟨b1, 0, none⟩)), (3, .pointer (some ⟨b2, 0, none⟩)), (2, .pointer (some ⟨b1, 0, none⟩))] w2 (by kernel_rfl) ?_
  refine J.ok (OK.ldBox S2 1 6 22 0 (.slice c.gX_a c.gX_n c.gX_c) (by kernel_rfl) rfl (by kernel_rfl)) ?_
  refine J.run 2 K46_2 [(8, .func (.func 59) #[] #[.pointer (some ⟨b1, 0, none⟩), .pointer (some ⟨b2, 0, none⟩)]), (7, .int .i64 (c.gX_n : Int))] w2 (by kernel_rfl) ?_
  refine J.callF 9 35 #[.int .i64 (c.gX_n : Int), .func (.func 59) #[] #[.pointer (some ⟨b1, 0, none⟩), .pointer (some ⟨b2, 0, none⟩)]] hb35 (by kernel_rfl) (search2 (c.gX_n : Int) 59 (.pointer (some ⟨b1, 0, none⟩)) (.pointer (some ⟨b2, 0, none⟩)) (fun i => decide (c.gX_l.getD i.toNat 0 > x)) _ (by omega) hb59 (fun i_ w_ h0_ h1_ S_ => cseg1_any c x i_ b1 b2 w_ (crvQ_sep (crvQ_sep hc S2) S_) ⟨h0_, by omega⟩ (box_keep (S2.nth 1 rfl) S_) (box_keep (S2.nth 0 rfl) S_))) ?_
  rintro _ w3 ⟨r1, rfl, hr11, hr12, hr13, T1⟩
  have S3 : Sep w [box b2 [.int .i64 x] 3, box b1 [.slice c.gX_a c.gX_n c.gX_c, .slice c.gY_a c.gY_n c.gY_c] 24] w3 := S2.trans T1
  refine J.run 1 K46_3 [(10, .int .i64 (IntKind.wrap .i64 (r1 - 1)))] w3 (by kernel_rfl) ?_
  refine J.head (.int .i64 (r1 - 1)) (congrArg (Value.int .i64) (IntWalk.i64_in _ (by omega))) ?_
  refine J.run 2 K46_4 [(4, .int .i64 (r1 - 1))] w3 (by kernel_rfl) ?_
  refine J.ret Tryd.f46 [.int .i64 (r1 - 1)] Tryd.func46 ⟨by kernel_rfl, trivial⟩ ?_
  refine hR _ _ ?_
  have hsg := seg_found (r := r1) hv2 hxx (by omega) hr12 (by rw [hX]; exact hr13)
  exact ⟨_, rfl, hsg, S3.nil⟩

theorem hb37 : HasBody Tryd.prog 37 := fun _ _ => by kernel_rfl
noncomputable def K37_0 : List Item := adv 2 [] (bodyOf Tryd.f37)
noncomputable def K37_1 : List Item := adv 5 [] (popK K37_0)
noncomputable def K37_2 : List Item := adv 9 [] (popK K37_1)
noncomputable def K37_3 : List Item := adv 3 [] (popK (popK (popK K37_2)))
noncomputable def K37_4 : List Item := adv 4 [true] K37_3
noncomputable def K37_5 : List Item := adv 2 [] (popK (popK (popK K37_4)))
noncomputable def K37_6 : List Item := adv 5 [false] K37_3
noncomputable def K37_7 : List Item := adv 2 [] (popK K37_6)
noncomputable def K37_8 : List Item := adv 3 [] (popK (popK K37_7))
noncomputable def K37_9 : List Item := adv 4 [true] K37_8
noncomputable def K37_10 : List Item := adv 2 [] (popK K37_9)
noncomputable def K37_11 : List Item := adv 2 [] (popK (popK K37_10))
noncomputable def K37_12 : List Item := adv 5 [false] K37_8
noncomputable def K37_13 : List Item := adv 1 [] (popK K37_12)
noncomputable def K37_14 : List Item := adv 3 [] (popK K37_13)
set_option maxRecDepth 20000 in
set_option maxHeartbeats 20000000 in
theorem cvalue_any (c : Crv) (x : Int) (w : World) (hc : crvQ w c) (hv : validV c = true) : Ret Tryd.prog 37 #[.agg #[.slice c.gX_a c.gX_n c.gX_c, .slice c.gY_a c.gY_n c.gY_c], .int .i64 x] w (fun v w' => v = .int .i64 (valueV c x) ∧ Sep w [] w') := by
  have S0 := Sep.refl w
  refine Ret.named fun R hR => ?_
  refine Ret.of_J (N := 78) [(0, .agg #[.slice c.gX_a c.gX_n c.gX_c, .slice c.gY_a c.gY_n c.gY_c]), (1, .int .i64 x)] Tryd.func37 rfl rfl (Nat.le_of_ble_eq_true (by kernel_rfl)) (by kernel_rfl) ?_
  obtain ⟨q1, q2, q3, q4, q5, q6, _⟩ := id hc
  have ql1 := q2.len_eq
  have ql2 := q5.len_eq
  obtain ⟨hv1, hv2, hv3⟩ := validV_facts hv
  obtain ⟨hx1, hx2, hx3⟩ := axis_facts hv2
  have hX : c.gX_l.length = c.gX_n := by omega
  have hY : c.gY_l.length = c.gX_n := by omega
  have hxm := axis_mono hv2 (show 0 < ((c.gX_n : Int) - 1).toNat by omega) (by omega)
  have hx0 := hx2 0 (by omega)
  have hxl := hx2 ((c.gX_n : Int) - 1).toNat (by omega)
  refine J.run 2 K37_0 [(0, .agg #[.slice c.gX_a c.gX_n c.gX_c, .slice c.gY_a c.gY_n c.gY_c]), (1, .int .i64 x)] w (by kernel_rfl) ?_
  refine J.new S0 2 [.slice c.gX_a c.gX_n c.gX_c, .slice c.gY_a c.gY_n c.gY_c] 24 (by kernel_rfl) ?_
  intro b1 w1 S1
  refine J.run 5 K37_1 [(7, .pointer (some ⟨b1, 0, none⟩)), (2, .pointer (some ⟨b1, 0, none⟩)), (1, .int .i64 x)] w1 (by kernel_rfl) ?_
  refine J.ok (OK.ldBox S1 0 8 22 0 (.slice c.gX_a c.gX_n c.gX_c) (by kernel_rfl) rfl (by kernel_rfl)) ?_
  refine J.run 9 K37_2 [(12, .pointer (some ⟨b1, 0, none⟩)), (11, .int .i64 x), (5, .int .i64 (c.gX_n : Int)), (2, .pointer (some ⟨b1, 0, none⟩)), (1, .int .i64 x)] w1 (by kernel_rfl) ?_
  refine J.ok (OK.ldBox S1 0 13 22 0 (.slice c.gX_a c.gX_n c.gX_c) (by kernel_rfl) rfl (by kernel_rfl)) ?_
  obtain ⟨p1, hp1, hc1⟩ := q2.at 0 0 (by omega)
  have hel1 := getD_Q q3 0 (n := 0) (by have := q2.len_eq; omega)
  refine J.ok (OK.index 14 22 1 c.gX_a p1 c.gX_n 0 0 (p1.add 0) (by kernel_rfl) (by kernel_rfl) hp1 (by omega) (by omega) (by rw [Nat.mul_one])) ?_
  refine J.ok (OK.ldCell 15 3 (p1.add 0) (.int .i64 (c.gX_l.getD 0 0)) (by kernel_rfl) (by kernel_rfl) (S1.cell hc1)) ?_
  refine J.run 3 K37_3 [(10, .bool (decide (x ≤ (c.gX_l.getD 0 0)))), (5, .int .i64 (c.gX_n : Int)), (2, .pointer (some ⟨b1, 0, none⟩)), (1, .int .i64 x)] w1 (by kernel_rfl) ?_
  by_cases fk1 : x ≤ (c.gX_l.getD 0 0)
  · skip
    refine J.head (.bool true) (congrArg Value.bool (decide_eq_true fk1)) ?_
    refine J.run 4 K37_4 [(17, .pointer (some ⟨b1, 1, none⟩))] w1 (by kernel_rfl) ?_
    refine J.ok (OK.ldBox S1 0 18 22 1 (.slice c.gY_a c.gY_n c.gY_c) (by kernel_rfl) rfl (by kernel_rfl)) ?_
    obtain ⟨p2, hp2, hc2⟩ := q5.at 0 0 (by omega)
    have hel2 := getD_Q q6 0 (n := 0) (by have := q5.len_eq; omega)
    refine J.ok (OK.index 19 22 1 c.gY_a p2 c.gY_n 0 0 (p2.add 0) (by kernel_rfl) (by kernel_rfl) hp2 (by omega) (by omega) (by rw [Nat.mul_one])) ?_
    refine J.ok (OK.ldCell 20 3 (p2.add 0) (.int .i64 (c.gY_l.getD 0 0)) (by kernel_rfl) (by kernel_rfl) (S1.cell hc2)) ?_
    refine J.run 2 K37_5 [(4, .int .i64 (c.gY_l.getD 0 0))] w1 (by kernel_rfl) ?_
    refine J.ret Tryd.f37 [.int .i64 (c.gY_l.getD 0 0)] Tryd.func37 ⟨by kernel_rfl, trivial⟩ ?_
    refine hR _ _ ?_
    exact ⟨congrArg (Value.int .i64) (by unfold valueV curveF; first | rw [if_pos (by omega)] | (rw [if_neg (by omega), if_pos (by rw [show c.gX_l.length - 1 = ((c.gX_n : Int) - 1).toNat by omega]; omega), show c.gX_l.length - 1 = ((c.gX_n : Int) - 1).toNat by omega])), S1.nil⟩
  · skip
    refine J.head (.bool false) (congrArg Value.bool (decide_eq_false fk1)) ?_
    refine J.run 5 K37_6 [(23, .pointer (some ⟨b1, 0, none⟩)), (22, .int .i64 x), (5, .int .i64 (c.gX_n : Int)), (2, .pointer (some ⟨b1, 0, none⟩)), (1, .int .i64 x)] w1 (by kernel_rfl) ?_
    refine J.ok (OK.ldBox S1 0 24 22 0 (.slice c.gX_a c.gX_n c.gX_c) (by kernel_rfl) rfl (by kernel_rfl)) ?_
    refine J.run 2 K37_7 [(26, .int .i64 (IntKind.wrap .i64 ((c.gX_n : Int) - 1))), (24, .slice c.gX_a c.gX_n c.gX_c), (22, .int .i64 x), (5, .int .i64 (c.gX_n : Int)), (2, .pointer (some ⟨b1, 0, none⟩)), (1, .int .i64 x)] w1 (by kernel_rfl) ?_
    refine J.head (.int .i64 ((c.gX_n : Int) - 1)) (congrArg (Value.int .i64) (IntWalk.i64_in _ (by omega))) ?_
    obtain ⟨p3, hp3, hc3⟩ := q2.at 0 ((c.gX_n : Int) - 1).toNat (by omega)
    have hel3 := getD_Q q3 0 (n := ((c.gX_n : Int) - 1).toNat) (by have := q2.len_eq; omega)
    refine J.ok (OK.index 27 22 1 c.gX_a p3 c.gX_n ((c.gX_n : Int) - 1).toNat ((c.gX_n : Int) - 1) (p3.add ((c.gX_n : Int) - 1).toNat) (by kernel_rfl) (by kernel_rfl) hp3 (by omega) (by omega) (by rw [Nat.mul_one])) ?_
    refine J.ok (OK.ldCell 28 3 (p3.add ((c.gX_n : Int) - 1).toNat) (.int .i64 (c.gX_l.getD ((c.gX_n : Int) - 1).toNat 0)) (by kernel_rfl) (by kernel_rfl) (S1.cell hc3)) ?_
    refine J.run 3 K37_8 [(21, .bool (decide (x ≥ (c.gX_l.getD ((c.gX_n : Int) - 1).toNat 0)))), (5, .int .i64 (c.gX_n : Int)), (2, .pointer (some ⟨b1, 0, none⟩)), (1, .int .i64 x)] w1 (by kernel_rfl) ?_
    by_cases fk2 : x ≥ (c.gX_l.getD ((c.gX_n : Int) - 1).toNat 0)
    · skip
      refine J.head (.bool true) (congrArg Value.bool (decide_eq_true fk2)) ?_
      refine J.run 4 K37_9 [(30, .pointer (some ⟨b1, 1, none⟩)), (5, .int .i64 (c.gX_n : Int))] w1 (by kernel_rfl) ?_
      refine J.ok (OK.ldBox S1 0 31 22 1 (.slice c.gY_a c.gY_n c.gY_c) (by kernel_rfl) rfl (by kernel_rfl)) ?_
      refine J.run 2 K37_10 [(33, .int .i64 (IntKind.wrap .i64 ((c.gX_n : Int) - 1))), (31, .slice c.gY_a c.gY_n c.gY_c)] w1 (by kernel_rfl) ?_
      refine J.head (.int .i64 ((c.gX_n : Int) - 1)) (congrArg (Value.int .i64) (IntWalk.i64_in _ (by omega))) ?_
      obtain ⟨p4, hp4, hc4⟩ := q5.at 0 ((c.gX_n : Int) - 1).toNat (by omega)
      have hel4 := getD_Q q6 0 (n := ((c.gX_n : Int) - 1).toNat) (by have := q5.len_eq; omega)
      refine J.ok (OK.index 34 22 1 c.gY_a p4 c.gY_n ((c.gX_n : Int) - 1).toNat ((c.gX_n : Int) - 1) (p4.add ((c.gX_n : Int) - 1).toNat) (by kernel_rfl) (by kernel_rfl) hp4 (by omega) (by omega) (by rw [Nat.mul_one])) ?_
      refine J.ok (OK.ldCell 35 3 (p4.add ((c.gX_n : Int) - 1).toNat) (.int .i64 (c.gY_l.getD ((c.gX_n : Int) - 1).toNat 0)) (by kernel_rfl) (by kernel_rfl) (S1.cell hc4)) ?_
      refine J.run 2 K37_11 [(4, .int .i64 (c.gY_l.getD ((c.gX_n : Int) - 1).toNat 0))] w1 (by kernel_rfl) ?_
      refine J.ret Tryd.f37 [.int .i64 (c.gY_l.getD ((c.gX_n : Int) - 1).toNat 0)] Tryd.func37 ⟨by kernel_rfl, trivial⟩ ?_
      refine hR _ _ ?_
      exact ⟨congrArg (Value.int .i64) (by unfold valueV curveF; first | rw [if_pos (by omega)] | (rw [if_neg (by omega), if_pos (by rw [show c.gX_l.length - 1 = ((c.gX_n : Int) - 1).toNat by omega]; omega), show c.gX_l.length - 1 = ((c.gX_n : Int) - 1).toNat by omega])), S1.nil⟩
    · skip
      refine J.head (.bool false) (congrArg Value.bool (decide_eq_false fk2)) ?_
      refine J.run 5 K37_12 [(2, .pointer (some ⟨b1, 0, none⟩)), (1, .int .i64 x)] w1 (by kernel_rfl) ?_
      refine J.ok (OK.ldBox S1 0 36 24 0 (.agg #[.slice c.gX_a c.gX_n c.gX_c, .slice c.gY_a c.gY_n c.gY_c]) (by kernel_rfl) rfl (by kernel_rfl)) ?_
      refine J.run 1 K37_13 [(37, .int .i64 x), (36, .agg #[.slice c.gX_a c.gX_n c.gX_c, .slice c.gY_a c.gY_n c.gY_c]), (2, .pointer (some ⟨b1, 0, none⟩)), (1, .int .i64 x)] w1 (by kernel_rfl) ?_
      refine J.callF 38 46 #[.agg #[.slice c.gX_a c.gX_n c.gX_c, .slice c.gY_a c.gY_n c.gY_c], .int .i64 x] hb46 (by kernel_rfl) (csegment_any c x _ (crvQ_sep hc S1) hv (by rw [show c.gX_l.length - 1 = ((c.gX_n : Int) - 1).toNat by omega]; omega)) ?_
      rintro _ w2 ⟨i, rfl, ⟨hsa, hsb, hsc⟩, T1⟩
      have S2 : Sep w [box b1 [.slice c.gX_a c.gX_n c.gX_c, .slice c.gY_a c.gY_n c.gY_c] 24] w2 := S1.trans T1
      have hA3 := axis_mono hv2 (show (i).toNat < (i + 1).toNat by omega) (by omega)
      have hA1 := hx2 (i).toNat (by omega)
      have hA2 := hx2 (i + 1).toNat (by omega)
      have hB1 := hv3 (i).toNat (by omega)
      have hB2 := hv3 (i + 1).toNat (by omega)
      have hpb := prod_bd (t := x - c.gX_l.getD (i).toNat 0) (k := c.gY_l.getD (i + 1).toNat 0 - c.gY_l.getD (i).toNat 0) (by omega) (by omega)
      have hbw := btw_bounds (x0 := c.gX_l.getD (i).toNat 0) (x1 := c.gX_l.getD (i + 1).toNat 0) (y0 := c.gY_l.getD (i).toNat 0) (y1 := c.gY_l.getD (i + 1).toNat 0) (x := x) (by omega) (by omega) (by omega)
      unfold btwF at hbw
      refine J.run 3 K37_14 [(6, .int .i64 i), (2, .pointer (some ⟨b1, 0, none⟩)), (1, .int .i64 x)] w2 (by kernel_rfl) ?_
      obtain ⟨p5, hp5, hc5⟩ := q5.at 0 (i).toNat (by omega)
      have hel5 := getD_Q q6 0 (n := (i).toNat) (by have := q5.len_eq; omega)
      obtain ⟨p6, hp6, hc6⟩ := q2.at 0 (i).toNat (by omega)
      have hel6 := getD_Q q3 0 (n := (i).toNat) (by have := q2.len_eq; omega)
      obtain ⟨p7, hp7, hc7⟩ := q5.at 0 (i + 1).toNat (by omega)
      have hel7 := getD_Q q6 0 (n := (i + 1).toNat) (by have := q5.len_eq; omega)
      obtain ⟨p8, hp8, hc8⟩ := q2.at 0 (i + 1).toNat (by omega)
      have hel8 := getD_Q q3 0 (n := (i + 1).toNat) (by have := q2.len_eq; omega)
      refine J.drawPlan (fun w_ => Sep w [box b1 [.slice c.gX_a c.gX_n c.gX_c, .slice c.gY_a c.gY_n c.gY_c] 24] w_) [(0, true), (1, true), (2, true), (3, true), (4, true), (5, true), (6, true), (7, true), (8, true), (9, true), (10, true), (11, true), (12, true), (13, true), (14, true), (15, true), (16, true), (17, true), (18, true), (19, true), (20, true), (21, true), (22, true), (23, true), (24, true), (25, true), (26, true), (27, true), (28, true), (29, true), (30, true), (31, true), (32, true), (33, true), (34, true), (35, true), (36, true), (37, false), (38, true), (39, true)] S2 Tryd.mixed (by kernel_rfl) (planOK_of (T := [(0, some 39, 4), (1, some 40, 549755813888), (0, some 41, 64), (6, some 42, 3298534883328), (8, some 43, 4398046511104), (0, some 44, 2), (0, some 45, 4), (64, some 46, 35184372088832), (0, some 47, 64), (384, some 48, 211106232532992), (512, some 49, 281474976710656), (1056, some 50, 580542139465728), (0, some 51, 4), (4096, some 52, 2251799813685248), (0, some 53, 64), (16384, some 54, 9007199254740992), (40960, some 55, 22517998136852480), (65536, some 56, 36028797018963968), (0, some 57, 4), (262144, some 58, 144115188075855872), (0, some 59, 64), (1572864, some 60, 864691128455135232), (2097152, some 61, 1152921504606846976), (4325376, some 62, 2377900603251621888), (8390656, some 63, 4612811918334230528), (0, some 64, 4), (33554432, some 65, 18446744073709551616), (0, some 66, 64), (134217728, some 67, 73786976294838206464), (335544320, some 68, 184467440737095516160), (536870912, some 69, 295147905179352825856), (0, some 70, 4), (2147483648, some 71, 1180591620717411303424), (0, some 72, 64), (12884901888, some 73, 7083549724304467820544), (17179869184, some 74, 9444732965739290427392), (35433480192, some 75, 19479761741837286506496), (68736253952, some 76, 37788155234994016485376), (137438953488, some 77, 75557863734710416441344), (549755813887, some 4, 151115727451828646838272)]) (by kernel_rfl) (by kernel_rfl)) ?_
      intro w3 S3
      refine PB.mk (S3.sub (.cons_cons _ (.slnil))) ?_
      refine PL.take 0 39 (.pointer (some ⟨b1, 1, none⟩)) (fun _ _ => by kernel_rfl) ?_
      refine PL.takeOK 1 (fun w_ S_ => OK.ldBox S_ 0 40 22 1 (.slice c.gY_a c.gY_n c.gY_c) (by kernel_rfl) rfl (by kernel_rfl)) rfl ?_
      refine PL.take 2 41 (.int .i64 i) (fun _ _ => by kernel_rfl) ?_
      refine PL.takeOK 3 (fun w_ S_ => OK.index 42 22 1 c.gY_a p5 c.gY_n (i).toNat i (p5.add (i).toNat) (by kernel_rfl) (by kernel_rfl) hp5 (by omega) (by omega) (by rw [Nat.mul_one])) rfl ?_
      refine PL.takeOK 4 (fun w_ S_ => OK.ldCell 43 3 (p5.add (i).toNat) (.int .i64 (c.gY_l.getD (i).toNat 0)) (by kernel_rfl) (by kernel_rfl) (S_.cell hc5)) rfl ?_
      refine PL.take 5 44 (.int .i64 x) (fun _ _ => by kernel_rfl) ?_
      refine PL.take 6 45 (.pointer (some ⟨b1, 0, none⟩)) (fun _ _ => by kernel_rfl) ?_
      refine PL.takeOK 7 (fun w_ S_ => OK.ldBox S_ 0 46 22 0 (.slice c.gX_a c.gX_n c.gX_c) (by kernel_rfl) rfl (by kernel_rfl)) rfl ?_
      refine PL.take 8 47 (.int .i64 i) (fun _ _ => by kernel_rfl) ?_
      refine PL.takeOK 9 (fun w_ S_ => OK.index 48 22 1 c.gX_a p6 c.gX_n (i).toNat i (p6.add (i).toNat) (by kernel_rfl) (by kernel_rfl) hp6 (by omega) (by omega) (by rw [Nat.mul_one])) rfl ?_
      refine PL.takeOK 10 (fun w_ S_ => OK.ldCell 49 3 (p6.add (i).toNat) (.int .i64 (c.gX_l.getD (i).toNat 0)) (by kernel_rfl) (by kernel_rfl) (S_.cell hc6)) rfl ?_
      refine PL.take 11 50 (.int .i64 (IntKind.wrap .i64 (x - (c.gX_l.getD (i).toNat 0)))) (fun _ _ => by kernel_rfl) ?_
      refine PL.head (.int .i64 (x - (c.gX_l.getD (i).toNat 0))) (congrArg (Value.int .i64) (IntWalk.i64_in _ (by omega))) ?_
      refine PL.take 12 51 (.pointer (some ⟨b1, 1, none⟩)) (fun _ _ => by kernel_rfl) ?_
      refine PL.takeOK 13 (fun w_ S_ => OK.ldBox S_ 0 52 22 1 (.slice c.gY_a c.gY_n c.gY_c) (by kernel_rfl) rfl (by kernel_rfl)) rfl ?_
      refine PL.take 14 53 (.int .i64 i) (fun _ _ => by kernel_rfl) ?_
      refine PL.take 15 54 (.int .i64 (IntKind.wrap .i64 (i + 1))) (fun _ _ => by kernel_rfl) ?_
      refine PL.head (.int .i64 (i + 1)) (congrArg (Value.int .i64) (IntWalk.i64_in _ (by omega))) ?_
      refine PL.takeOK 16 (fun w_ S_ => OK.index 55 22 1 c.gY_a p7 c.gY_n (i + 1).toNat (i + 1) (p7.add (i + 1).toNat) (by kernel_rfl) (by kernel_rfl) hp7 (by omega) (by omega) (by rw [Nat.mul_one])) rfl ?_
      refine PL.takeOK 17 (fun w_ S_ => OK.ldCell 56 3 (p7.add (i + 1).toNat) (.int .i64 (c.gY_l.getD (i + 1).toNat 0)) (by kernel_rfl) (by kernel_rfl) (S_.cell hc7)) rfl ?_
      refine PL.take 18 57 (.pointer (some ⟨b1, 1, none⟩)) (fun _ _ => by kernel_rfl) ?_
      refine PL.takeOK 19 (fun w_ S_ => OK.ldBox S_ 0 58 22 1 (.slice c.gY_a c.gY_n c.gY_c) (by kernel_rfl) rfl (by kernel_rfl)) rfl ?_
      refine PL.take 20 59 (.int .i64 i) (fun _ _ => by kernel_rfl) ?_
      refine PL.takeOK 21 (fun w_ S_ => OK.index 60 22 1 c.gY_a p5 c.gY_n (i).toNat i (p5.add (i).toNat) (by kernel_rfl) (by kernel_rfl) hp5 (by omega) (by omega) (by rw [Nat.mul_one])) rfl ?_
      refine PL.takeOK 22 (fun w_ S_ => OK.ldCell 61 3 (p5.add (i).toNat) (.int .i64 (c.gY_l.getD (i).toNat 0)) (by kernel_rfl) (by kernel_rfl) (S_.cell hc5)) rfl ?_
      refine PL.take 23 62 (.int .i64 (IntKind.wrap .i64 ((c.gY_l.getD (i + 1).toNat 0) - (c.gY_l.getD (i).toNat 0)))) (fun _ _ => by kernel_rfl) ?_
      refine PL.head (.int .i64 ((c.gY_l.getD (i + 1).toNat 0) - (c.gY_l.getD (i).toNat 0))) (congrArg (Value.int .i64) (IntWalk.i64_in _ (by omega))) ?_
      refine PL.take 24 63 (.int .i64 (IntKind.wrap .i64 ((x - (c.gX_l.getD (i).toNat 0)) * ((c.gY_l.getD (i + 1).toNat 0) - (c.gY_l.getD (i).toNat 0))))) (fun _ _ => by kernel_rfl) ?_
      refine PL.head (.int .i64 ((x - (c.gX_l.getD (i).toNat 0)) * ((c.gY_l.getD (i + 1).toNat 0) - (c.gY_l.getD (i).toNat 0)))) (congrArg (Value.int .i64) (IntWalk.i64_in _ (by omega))) ?_
      refine PL.take 25 64 (.pointer (some ⟨b1, 0, none⟩)) (fun _ _ => by kernel_rfl) ?_
      refine PL.takeOK 26 (fun w_ S_ => OK.ldBox S_ 0 65 22 0 (.slice c.gX_a c.gX_n c.gX_c) (by kernel_rfl) rfl (by kernel_rfl)) rfl ?_
      refine PL.take 27 66 (.int .i64 i) (fun _ _ => by kernel_rfl) ?_
      refine PL.take 28 67 (.int .i64 (IntKind.wrap .i64 (i + 1))) (fun _ _ => by kernel_rfl) ?_
      refine PL.head (.int .i64 (i + 1)) (congrArg (Value.int .i64) (IntWalk.i64_in _ (by omega))) ?_
      refine PL.takeOK 29 (fun w_ S_ => OK.index 68 22 1 c.gX_a p8 c.gX_n (i + 1).toNat (i + 1) (p8.add (i + 1).toNat) (by kernel_rfl) (by kernel_rfl) hp8 (by omega) (by omega) (by rw [Nat.mul_one])) rfl ?_
      refine PL.takeOK 30 (fun w_ S_ => OK.ldCell 69 3 (p8.add (i + 1).toNat) (.int .i64 (c.gX_l.getD (i + 1).toNat 0)) (by kernel_rfl) (by kernel_rfl) (S_.cell hc8)) rfl ?_
      refine PL.take 31 70 (.pointer (some ⟨b1, 0, none⟩)) (fun _ _ => by kernel_rfl) ?_
      refine PL.takeOK 32 (fun w_ S_ => OK.ldBox S_ 0 71 22 0 (.slice c.gX_a c.gX_n c.gX_c) (by kernel_rfl) rfl (by kernel_rfl)) rfl ?_
      refine PL.take 33 72 (.int .i64 i) (fun _ _ => by kernel_rfl) ?_
      refine PL.takeOK 34 (fun w_ S_ => OK.index 73 22 1 c.gX_a p6 c.gX_n (i).toNat i (p6.add (i).toNat) (by kernel_rfl) (by kernel_rfl) hp6 (by omega) (by omega) (by rw [Nat.mul_one])) rfl ?_
      refine PL.takeOK 35 (fun w_ S_ => OK.ldCell 74 3 (p6.add (i).toNat) (.int .i64 (c.gX_l.getD (i).toNat 0)) (by kernel_rfl) (by kernel_rfl) (S_.cell hc6)) rfl ?_
      refine PL.take 36 75 (.int .i64 (IntKind.wrap .i64 ((c.gX_l.getD (i + 1).toNat 0) - (c.gX_l.getD (i).toNat 0)))) (fun _ _ => by kernel_rfl) ?_
      refine PL.head (.int .i64 ((c.gX_l.getD (i + 1).toNat 0) - (c.gX_l.getD (i).toNat 0))) (congrArg (Value.int .i64) (IntWalk.i64_in _ (by omega))) ?_
      refine PL.callF 76 55 #[.int .i64 ((x - (c.gX_l.getD (i).toNat 0)) * ((c.gY_l.getD (i + 1).toNat 0) - (c.gY_l.getD (i).toNat 0))), .int .i64 ((c.gX_l.getD (i + 1).toNat 0) - (c.gX_l.getD (i).toNat 0))] hb55 (by kernel_rfl) (floor_any ((x - (c.gX_l.getD (i).toNat 0)) * ((c.gY_l.getD (i + 1).toNat 0) - (c.gY_l.getD (i).toNat 0))) ((c.gX_l.getD (i + 1).toNat 0) - (c.gX_l.getD (i).toNat 0)) _ (by omega) (by omega)) ?_
      rintro _ w4 ⟨rfl, T2⟩
      have S4 : Sep w [box b1 [.slice c.gX_a c.gX_n c.gX_c, .slice c.gY_a c.gY_n c.gY_c] 24] w4 := S3.trans T2
      clear T2 S3
      refine PB.head (.int .i64 (((x - (c.gX_l.getD (i).toNat 0)) * ((c.gY_l.getD (i + 1).toNat 0) - (c.gY_l.getD (i).toNat 0))) / ((c.gX_l.getD (i + 1).toNat 0) - (c.gX_l.getD (i).toNat 0)))) (congrArg (Value.int .i64) (floor_pos (by omega) (by omega))) ?_
      refine PB.mk (S4.sub (.cons_cons _ (.slnil))) ?_
      refine PL.take 38 77 (.int .i64 (IntKind.wrap .i64 ((c.gY_l.getD (i).toNat 0) + (((x - (c.gX_l.getD (i).toNat 0)) * ((c.gY_l.getD (i + 1).toNat 0) - (c.gY_l.getD (i).toNat 0))) / ((c.gX_l.getD (i + 1).toNat 0) - (c.gX_l.getD (i).toNat 0)))))) (fun _ _ => by kernel_rfl) ?_
      refine PL.head (.int .i64 ((c.gY_l.getD (i).toNat 0) + (((x - (c.gX_l.getD (i).toNat 0)) * ((c.gY_l.getD (i + 1).toNat 0) - (c.gY_l.getD (i).toNat 0))) / ((c.gX_l.getD (i + 1).toNat 0) - (c.gX_l.getD (i).toNat 0))))) (congrArg (Value.int .i64) (IntWalk.i64_in _ (by omega))) ?_
      refine PL.take 39 4 (.int .i64 ((c.gY_l.getD (i).toNat 0) + (((x - (c.gX_l.getD (i).toNat 0)) * ((c.gY_l.getD (i + 1).toNat 0) - (c.gY_l.getD (i).toNat 0))) / ((c.gX_l.getD (i + 1).toNat 0) - (c.gX_l.getD (i).toNat 0))))) (fun _ _ => by kernel_rfl) ?_
      refine PL.done ?_
      refine J.run 0 (rRest K37_14) [(4, .int .i64 ((c.gY_l.getD (i).toNat 0) + (((x - (c.gX_l.getD (i).toNat 0)) * ((c.gY_l.getD (i + 1).toNat 0) - (c.gY_l.getD (i).toNat 0))) / ((c.gX_l.getD (i + 1).toNat 0) - (c.gX_l.getD (i).toNat 0)))))] w4 (by kernel_rfl) ?_
      refine J.ret Tryd.f37 [.int .i64 ((c.gY_l.getD (i).toNat 0) + (((x - (c.gX_l.getD (i).toNat 0)) * ((c.gY_l.getD (i + 1).toNat 0) - (c.gY_l.getD (i).toNat 0))) / ((c.gX_l.getD (i + 1).toNat 0) - (c.gX_l.getD (i).toNat 0))))] Tryd.func37 ⟨by kernel_rfl, trivial⟩ ?_
      refine hR _ _ ?_
      have e := curve_mid (ys := c.gY_l) hv2 (x := x) (i := i) ⟨by omega, by rw [show c.gX_l.length - 1 = ((c.gX_n : Int) - 1).toNat by omega]; omega⟩ (by omega) hsb hsc
      exact ⟨congrArg (Value.int .i64) (by unfold valueV; rw [e]), S4.nil⟩

theorem hb19 : HasBody Tryd.prog 19 := fun _ _ => by kernel_rfl
noncomputable def K19_0 : List Item := adv 2 [] (bodyOf Tryd.f19)
noncomputable def K19_1 : List Item := adv 5 [] (popK K19_0)
noncomputable def K19_2 : List Item := adv 2 [] (popK (popK K19_1))
noncomputable def K19_3 : List Item := adv 4 [false] K19_2
noncomputable def K19_4 : List Item := adv 1 [] (popK K19_3)
noncomputable def K19_5 : List Item := adv 2 [] (popK K19_4)
noncomputable def K19_6 : List Item := adv 5 [true] K19_2
set_option maxRecDepth 20000 in
set_option maxHeartbeats 20000000 in
theorem cAt_any (c : Crv) (x : Int) (w : World) (hc : crvQ w c) : Ret Tryd.prog 19 #[.agg #[.slice c.gX_a c.gX_n c.gX_c, .slice c.gY_a c.gY_n c.gY_c], .int .i64 x] w (fun v w' => v = .int .i64 (atV c x) ∧ Sep w [] w') := by
  have S0 := Sep.refl w
  refine Ret.named fun R hR => ?_
  refine Ret.of_J (N := 11) [(0, .agg #[.slice c.gX_a c.gX_n c.gX_c, .slice c.gY_a c.gY_n c.gY_c]), (1, .int .i64 x)] Tryd.func19 rfl rfl (Nat.le_of_ble_eq_true (by kernel_rfl)) (by kernel_rfl) ?_
  obtain ⟨q1, q2, q3, q4, q5, q6, _⟩ := id hc
  have ql1 := q2.len_eq
  have ql2 := q5.len_eq
  refine J.run 2 K19_0 [(0, .agg #[.slice c.gX_a c.gX_n c.gX_c, .slice c.gY_a c.gY_n c.gY_c]), (1, .int .i64 x)] w (by kernel_rfl) ?_
  refine J.new S0 2 [.slice c.gX_a c.gX_n c.gX_c, .slice c.gY_a c.gY_n c.gY_c] 24 (by kernel_rfl) ?_
  intro b1 w1 S1
  refine J.run 5 K19_1 [(2, .pointer (some ⟨b1, 0, none⟩)), (1, .int .i64 x)] w1 (by kernel_rfl) ?_
  refine J.ok (OK.ldBox S1 0 5 24 0 (.agg #[.slice c.gX_a c.gX_n c.gX_c, .slice c.gY_a c.gY_n c.gY_c]) (by kernel_rfl) rfl (by kernel_rfl)) ?_
  refine J.callF 6 16 #[.agg #[.slice c.gX_a c.gX_n c.gX_c, .slice c.gY_a c.gY_n c.gY_c]] hb16 (by kernel_rfl) (cvalid_any c _ (crvQ_sep hc S1)) ?_
  rintro _ w2 ⟨rfl, T1⟩
  have S2 : Sep w [box b1 [.slice c.gX_a c.gX_n c.gX_c, .slice c.gY_a c.gY_n c.gY_c] 24] w2 := S1.trans T1
  clear T1 S1
  refine J.run 2 K19_2 [(7, .bool (!(validV c))), (2, .pointer (some ⟨b1, 0, none⟩)), (1, .int .i64 x)] w2 (by kernel_rfl) ?_
  rcases Bool.eq_false_or_eq_true (validV c) with fk1 | fk1
  · skip
    refine J.head (.bool false) (congrArg Value.bool (by rw [fk1]; rfl)) ?_
    have hv := fk1
    refine J.run 4 K19_3 [(2, .pointer (some ⟨b1, 0, none⟩)), (1, .int .i64 x)] w2 (by kernel_rfl) ?_
    refine J.ok (OK.ldBox S2 0 8 24 0 (.agg #[.slice c.gX_a c.gX_n c.gX_c, .slice c.gY_a c.gY_n c.gY_c]) (by kernel_rfl) rfl (by kernel_rfl)) ?_
    refine J.run 1 K19_4 [(9, .int .i64 x), (8, .agg #[.slice c.gX_a c.gX_n c.gX_c, .slice c.gY_a c.gY_n c.gY_c])] w2 (by kernel_rfl) ?_
    refine J.callF 10 37 #[.agg #[.slice c.gX_a c.gX_n c.gX_c, .slice c.gY_a c.gY_n c.gY_c], .int .i64 x] hb37 (by kernel_rfl) (cvalue_any c x _ (crvQ_sep hc S2) hv) ?_
    rintro _ w3 ⟨rfl, T2⟩
    have S3 : Sep w [box b1 [.slice c.gX_a c.gX_n c.gX_c, .slice c.gY_a c.gY_n c.gY_c] 24] w3 := S2.trans T2
    clear T2 S2
    refine J.run 2 K19_5 [(4, .int .i64 (valueV c x))] w3 (by kernel_rfl) ?_
    refine J.ret Tryd.f19 [.int .i64 (valueV c x)] Tryd.func19 ⟨by kernel_rfl, trivial⟩ ?_
    refine hR _ _ ?_
    exact ⟨congrArg (Value.int .i64) (by unfold atV; rw [fk1]; rfl), S3.nil⟩
  · skip
    refine J.head (.bool true) (congrArg Value.bool (by rw [fk1]; rfl)) ?_
    refine J.run 5 K19_6 [(4, .int .i64 0)] w2 (by kernel_rfl) ?_
    refine J.ret Tryd.f19 [.int .i64 0] Tryd.func19 ⟨by kernel_rfl, trivial⟩ ?_
    refine hR _ _ ?_
    exact ⟨congrArg (Value.int .i64) (by unfold atV; rw [fk1]; rfl), S2.nil⟩

end Go.Proofs.YtdilhoibcbihlaaDoor

