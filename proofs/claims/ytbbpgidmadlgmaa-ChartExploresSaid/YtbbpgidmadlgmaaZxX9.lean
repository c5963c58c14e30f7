/- Walks of functions of this seat, printed by a program over the engine. Conditions: as each theorem says. -/
import Derived.Test.YtbbpgidmadlgmaaZxX8
namespace Go.Proofs.Ytbbpgidmadlgmaa
open Go.Eng Go.RowKit
set_option linter.unusedSimpArgs false
set_option linter.unusedVariables false
/-! what the reference explores -/
noncomputable def inB (P : Int → Prop) (i : Nat) : Bool := @decide (P i) (Classical.propDecidable _)
noncomputable def selL (P : Int → Prop) (n : Nat) : List Int := ((List.range n).filter (inB P)).map fun (k : Nat) => (k : Int)
theorem selL_zero (P : Int → Prop) : [] = selL P (0 : Int).toNat := rfl
theorem selL_yes {P : Int → Prop} {n : Int} {l : List Int} (h : l = selL P n.toNat) (h0 : 0 ≤ n) (hp : P n) : l ++ [n] = selL P (n + 1).toNat := by
  have e : (n.toNat : Int) = n := Int.toNat_of_nonneg h0
  have hb : inB P n.toNat = true := by unfold inB; rw [e]; exact @decide_eq_true _ (Classical.propDecidable _) hp
  rw [show (n + 1).toNat = n.toNat + 1 by omega]
  unfold selL at *
  rw [List.range_succ, List.filter_append, List.map_append, ← h]
  simp [hb, e]
theorem selL_no {P : Int → Prop} {n : Int} {l : List Int} (h : l = selL P n.toNat) (h0 : 0 ≤ n) (hp : ¬ P n) : l = selL P (n + 1).toNat := by
  have e : (n.toNat : Int) = n := Int.toNat_of_nonneg h0
  have hb : inB P n.toNat = false := by unfold inB; rw [e]; exact @decide_eq_false _ (Classical.propDecidable _) hp
  rw [show (n + 1).toNat = n.toNat + 1 by omega]
  unfold selL at *
  rw [List.range_succ, List.filter_append, List.map_append, ← h]
  simp [hb]
theorem selL_len (P : Int → Prop) (n : Nat) : (selL P n).length ≤ n := by
  unfold selL; rw [List.length_map]; exact Nat.le_trans (List.length_filter_le _ _) (by rw [List.length_range]; exact Nat.le_refl _)
noncomputable def reachL (c : Cht) : List Int := if validC c then selL (RS c) c.gStates_n else []
noncomputable def deadL (c : Cht) : List Int := if validC c then selL (fun i => ¬ RM c i) c.gMoves_n else []
def getT (l : List Bool) (s : Int) : Prop := 0 ≤ s ∧ l.getD s.toNat false = true
def chainP (c : Cht) (s a : Int) : Prop := ∀ b, 0 ≤ b → b < a → staysP c s b
def DoneA (c : Cht) (lS lM : List Bool) (s a : Int) : Prop := chainP c s a → ∀ i, 0 ≤ i → takesP c s a i → getT lM i ∧ getT lS (toM c i)
def DoneS (c : Cht) (last : Int) (lS lM : List Bool) (s : Int) : Prop := ∀ a, 0 ≤ a → a ≤ last → DoneA c lS lM s a
def EInv (c : Cht) (last : Int) (lS lM : List Bool) (q : List Int) (cur : Int) : Prop :=
  lS.length = c.gStates_n ∧ lM.length = c.gMoves_n ∧ (∀ s, getT lS s → Rch c s 0) ∧ (∀ i, getT lM i → RM c i) ∧ (∀ s ∈ q, getT lS s) ∧ getT lS c.gStart ∧ (∀ s, getT lS s → s ∈ q ∨ s = cur ∨ DoneS c last lS lM s)
def PX (c : Cht) (lS lM : List Bool) (s a x : Int) (b : Bool) : Prop := (∀ y, 0 ≤ y → y < x → 0 ≤ stepI c s a y → getT lM (stepI c s a y) ∧ getT lS (toM c (stepI c s a y))) ∧ (b = true ↔ ∃ y : Int, (0 ≤ y ∧ y < x) ∧ stepI c s a y < 0)
def PA (c : Cht) (lS lM : List Bool) (s a : Int) (b : Bool) : Prop := (∀ d, 0 ≤ d → d < a → DoneA c lS lM s d) ∧ (b = true → chainP c s a) ∧ (b = false → ∀ d, a ≤ d → ¬ chainP c s d)
def flN (l : List Bool) : Nat := l.countP fun b => !b
section
variable {c : Cht} {last s a x cur : Int} {lS lM lS' lM' : List Bool} {q : List Int} {b : Bool}
theorem getT_set {l : List Bool} {i : Int} (h0 : 0 ≤ i) (h : i.toNat < l.length) (j : Int) : getT (l.set i.toNat true) j ↔ getT l j ∨ j = i := by
  unfold getT
  rw [List.getD_eq_getElem?_getD, List.getD_eq_getElem?_getD, List.getElem?_set]
  by_cases e : i.toNat = j.toNat
  · rw [if_pos e, ← e, if_pos h]
    constructor
    · intro hj; exact .inr (by omega)
    · rintro (⟨h1, _⟩ | rfl)
      · exact ⟨h1, rfl⟩
      · exact ⟨h0, rfl⟩
  · rw [if_neg e]
    exact ⟨.inl, fun hj => hj.resolve_right (fun e2 => e (by rw [e2]))⟩
theorem flN_set : ∀ {l : List Bool} {t : Nat}, t < l.length → l.getD t false = false → flN (l.set t true) + 1 = flN l
  | [], t, h, _ => by simp at h
  | y :: l, 0, _, hf => by
    have : y = false := hf
    subst this; simp [flN]
  | y :: l, t + 1, h, hf => by
    have ih := flN_set (l := l) (t := t) (by simpa using h) (by simpa using hf)
    unfold flN at *
    rw [List.set_cons_succ, List.countP_cons, List.countP_cons]; omega
theorem flN_le (l : List Bool) : flN l ≤ l.length := List.countP_le_length
theorem rch_zero (h : Rch c s a) : Rch c s 0 ∧ chainP c s a := by
  induction h with
  | start => exact ⟨.start, fun b h0 h1 => by omega⟩
  | move h h0 ht _ => exact ⟨.move h h0 ht, fun b h0 h1 => by omega⟩
  | stay h hs h1 ih =>
    refine ⟨ih.1, fun b h0 hb => ?_⟩
    rename_i s' a'
    by_cases e : b = a'
    · rw [e]; exact hs
    · exact ih.2 b h0 (by omega)
theorem rch_chain (h : Rch c s 0) (n : Nat) (hc : chainP c s n) (hn : n ≤ 1000) : Rch c s n := by
  induction n with
  | zero => exact h
  | succ k ih => exact .stay (ih (fun b h0 h1 => hc b h0 (by omega)) (by omega)) (hc k (by omega) (by omega)) (by omega)
theorem rch_at (h : Rch c s 0) (hc : chainP c s a) (h0 : 0 ≤ a) (h1 : a ≤ 1000) : Rch c s a := by
  have := rch_chain h a.toNat (by rw [Int.toNat_of_nonneg h0]; exact hc) (by omega)
  rw [Int.toNat_of_nonneg h0] at this; exact this
theorem doneA_mono (h1 : ∀ j, getT lS j → getT lS' j) (h2 : ∀ j, getT lM j → getT lM' j) (h : DoneA c lS lM s a) : DoneA c lS' lM' s a := fun hc i h0 ht => ⟨h2 _ (h hc i h0 ht).1, h1 _ (h hc i h0 ht).2⟩
theorem einv_start (hv : validC c = true) : EInv c last ((List.replicate c.gStates_n false).set c.gStart.toNat true) (List.replicate c.gMoves_n false) [c.gStart] (-1) := by
  have hf := validC_facts hv
  have hr : ∀ n j, ¬ getT (List.replicate n false) j := fun n j h => by
    have := h.2
    rw [List.getD_eq_getElem?_getD, List.getElem?_replicate] at this
    split at this <;> cases this
  have hs := getT_set (l := List.replicate c.gStates_n false) (i := c.gStart) (by omega) (by rw [List.length_replicate]; omega)
  have hst : getT ((List.replicate c.gStates_n false).set c.gStart.toNat true) c.gStart := (hs _).2 (.inr rfl)
  refine ⟨by rw [List.length_set, List.length_replicate], List.length_replicate, fun s h => ?_, fun i h => absurd h (hr _ _), fun s h => ?_, hst, fun s h => .inl ?_⟩
  · rcases (hs s).1 h with h | rfl
    · exact absurd h (hr _ _)
    · exact .start
  · rw [List.mem_singleton.1 h]; exact hst
  · rcases (hs s).1 h with h | rfl
    · exact absurd h (hr _ _)
    · exact List.mem_singleton.2 rfl
theorem qi_split {q : List Int} (h : 0 < q.length) : ∀ m, m ∈ q ↔ m = q.getD 0 0 ∨ m ∈ q.drop 1 := by
  cases q with
  | nil => simp at h
  | cons x q => intro m; simp
theorem einv_pop (h : EInv c last lS lM q (-1)) (hq : 0 < q.length) (hs : s = q.getD 0 0) : EInv c last lS lM (q.drop 1) s ∧ getT lS s := by
  obtain ⟨h1, h2, h3, h4, h5, h6, h7⟩ := h
  have hm : getT lS s := h5 s ((qi_split hq s).2 (.inl hs))
  refine ⟨⟨h1, h2, h3, h4, fun t ht => h5 t ((qi_split hq t).2 (.inr ht)), h6, fun t ht => ?_⟩, hm⟩
  rcases h7 t ht with h | h | h
  · rcases (qi_split hq t).1 h with h | h
    · exact .inr (.inl (h.trans hs.symm))
    · exact .inl h
  · have := ht.1; omega
  · exact .inr (.inr h)
theorem einv_take (h : EInv c last lS lM q cur) (hr : Rch c s a) {x i : Int} (hx : 0 ≤ x ∧ x < nIn c) (hi : stepI c s a x = i) (h0 : 0 ≤ i) : EInv c last lS (lM.set i.toNat true) q cur := by
  obtain ⟨h1, h2, h3, h4, h5, h6, h7⟩ := h
  have ht : takesP c s a i := ⟨x, hx, hi⟩
  have hl := takes_lt ht
  by_cases hb : i.toNat < lM.length
  · have hm := getT_set h0 hb
    refine ⟨h1, by rw [List.length_set]; exact h2, h3, fun j hj => ?_, h5, h6, fun t ht => (h7 t ht).imp_right fun h => h.imp_right fun h a h0 h1 => doneA_mono (fun _ h => h) (fun j h => (hm j).2 (.inl h)) (h a h0 h1)⟩
    rcases (hm j).1 hj with hj | rfl
    · exact h4 j hj
    · exact ⟨s, a, hr, h0, ht⟩
  · rw [List.set_eq_of_length_le (by omega)]; exact ⟨h1, h2, h3, h4, h5, h6, h7⟩
theorem einv_mark (hv : validC c = true) (h : EInv c last lS lM q cur) (hr : Rch c s a) {x i : Int} (hx : 0 ≤ x ∧ x < nIn c) (hi : stepI c s a x = i) (h0 : 0 ≤ i) : EInv c last (lS.set (toM c i).toNat true) lM (q ++ [toM c i]) cur := by
  obtain ⟨h1, h2, h3, h4, h5, h6, h7⟩ := h
  have ht : takesP c s a i := ⟨x, hx, hi⟩
  have hto := to_in hv h0 (takes_lt ht)
  have hm := getT_set (l := lS) hto.1 (by omega)
  refine ⟨by rw [List.length_set]; exact h1, h2, fun j hj => ?_, h4, fun j hj => ?_, (hm _).2 (.inl h6), fun t ht => ?_⟩
  · rcases (hm j).1 hj with hj | rfl
    · exact h3 j hj
    · exact .move hr h0 ht
  · rcases List.mem_append.1 hj with hj | hj
    · exact (hm j).2 (.inl (h5 j hj))
    · exact (hm j).2 (.inr (List.mem_singleton.1 hj))
  · rcases (hm t).1 ht with ht | rfl
    · rcases h7 t ht with h | h | h
      · exact .inl (List.mem_append.2 (.inl h))
      · exact .inr (.inl h)
      · exact .inr (.inr fun a h0 h1 => doneA_mono (fun j h => (hm j).2 (.inl h)) (fun _ h => h) (h a h0 h1))
    · exact .inl (List.mem_append.2 (.inr (List.mem_singleton.2 rfl)))
theorem px_zero : PX c lS lM s a 0 false := ⟨(fun y h0 h1 => by omega), ⟨(fun h => by cases h), (fun ⟨y, h, _⟩ => by omega)⟩⟩
theorem px_mono (h1 : ∀ j, getT lS j → getT lS' j) (h2 : ∀ j, getT lM j → getT lM' j) (h : PX c lS lM s a x b) : PX c lS' lM' s a x b := ⟨fun y h0 hy hs => ⟨h2 _ (h.1 y h0 hy hs).1, h1 _ (h.1 y h0 hy hs).2⟩, h.2⟩
theorem px_neg (h : PX c lS lM s a x b) (h0 : 0 ≤ x) (hx : stepI c s a x < 0) : PX c lS lM s a (x + 1) true := by
  refine ⟨fun y hy hyx hs => ?_, ⟨fun _ => ⟨x, by omega, hx⟩, fun _ => rfl⟩⟩
  by_cases e : y = x
  · subst e; omega
  · exact h.1 y hy (by omega) hs
theorem px_pos (h : PX c lS lM s a x b) (h0 : 0 ≤ x) (hx : ¬ stepI c s a x < 0) (h1 : getT lM (stepI c s a x)) (h2 : getT lS (toM c (stepI c s a x))) : PX c lS lM s a (x + 1) b := by
  refine ⟨fun y hy hyx hs => ?_, h.2.trans ⟨fun ⟨y, p, r⟩ => ⟨y, by omega, r⟩, fun ⟨y, p, r⟩ => ?_⟩⟩
  · by_cases e : y = x
    · rw [e]; exact ⟨h1, h2⟩
    · exact h.1 y hy (by omega) hs
  · by_cases e : y = x
    · rw [e] at r; exact absurd r hx
    · exact ⟨y, by omega, r⟩
/-- one more input that is taken: the move is marked, its state was or is marked -/
theorem px_old (h : PX c lS lM s a x b) (h0 : 0 ≤ x) (hx : ¬ stepI c s a x < 0) (hl : (stepI c s a x).toNat < lM.length) {t : Int} (ht : t = toM c (stepI c s a x)) (ht0 : 0 ≤ t) (hs : lS.getD t.toNat false = true) : PX c lS (lM.set (stepI c s a x).toNat true) s a (x + 1) b := by
  have hm := getT_set (l := lM) (i := stepI c s a x) (by omega) hl
  exact px_pos (px_mono (fun _ h => h) (fun j h => (hm j).2 (.inl h)) h) h0 hx ((hm _).2 (.inr rfl)) (by rw [← ht]; exact ⟨ht0, hs⟩)
theorem px_new (h : PX c lS lM s a x b) (h0 : 0 ≤ x) (hx : ¬ stepI c s a x < 0) (hl : (stepI c s a x).toNat < lM.length) {t : Int} (ht : t = toM c (stepI c s a x)) (ht0 : 0 ≤ t) (hs : t.toNat < lS.length) : PX c (lS.set t.toNat true) (lM.set (stepI c s a x).toNat true) s a (x + 1) b := by
  have hm := getT_set (l := lM) (i := stepI c s a x) (by omega) hl
  have hm2 := getT_set (l := lS) ht0 hs
  exact px_pos (px_mono (fun j h => (hm2 j).2 (.inl h)) (fun j h => (hm j).2 (.inl h)) h) h0 hx ((hm _).2 (.inr rfl)) (by rw [← ht]; exact (hm2 _).2 (.inr rfl))
theorem pa_zero : PA c lS lM s 0 true := ⟨(fun d h0 h1 => by omega), (fun _ d h0 h1 => by omega), (fun h => by cases h)⟩
theorem pa_mono (h1 : ∀ j, getT lS j → getT lS' j) (h2 : ∀ j, getT lM j → getT lM' j) (h : PA c lS lM s a b) : PA c lS' lM' s a b := ⟨fun d h0 hd => doneA_mono h1 h2 (h.1 d h0 hd), h.2⟩
theorem pa_next (h0 : 0 ≤ a) (h : PA c lS lM s a true) (hx : PX c lS lM s a x b) (hn : x = nIn c) : PA c lS lM s (a + 1) b := by
  subst hn
  obtain ⟨p1, p2, _⟩ := h
  have hc := p2 rfl
  refine ⟨fun d hd hda => ?_, fun hb => ?_, fun hb d hd hcd => ?_⟩
  · by_cases e : d = a
    · subst e
      intro _ i hi ⟨y, hy, hyi⟩
      rw [← hyi]; exact hx.1 y hy.1 hy.2 (by omega)
    · exact p1 d hd (by omega)
  · intro d hd hda
    by_cases e : d = a
    · rw [e]; exact hx.2.1 hb
    · exact hc d hd (by omega)
  · have := hx.2.2 (hcd a h0 (by omega))
    rw [hb] at this; cases this
theorem pa_done (h : PA c lS lM s a b) (he : b = false ∨ last < a) : DoneS c last lS lM s := fun d h0 hd => by
  rcases Int.lt_or_le d a with hlt | hle
  · exact h.1 d h0 hlt
  · rcases he with he | he
    · intro hc; exact absurd hc (h.2.2 he d hle)
    · omega
theorem einv_done (h : EInv c last lS lM q s) (hd : DoneS c last lS lM s) : EInv c last lS lM q (-1) := by
  obtain ⟨h1, h2, h3, h4, h5, h6, h7⟩ := h
  refine ⟨h1, h2, h3, h4, h5, h6, fun t ht => ?_⟩
  rcases h7 t ht with h | h | h
  · exact .inl h
  · subst h; exact .inr (.inr hd)
  · exact .inr (.inr h)
theorem einv_end (h : EInv c last lS lM q (-1)) (hq : ¬ 0 < (q.length : Int)) (hl0 : 0 ≤ last) (hl : ∀ m ∈ c.gMoves_l, m.gAfter ≤ last) : (∀ s, getT lS s ↔ RS c s) ∧ ∀ i, getT lM i ↔ RM c i := by
  have hn : q = [] := List.eq_nil_of_length_eq_zero (by omega)
  subst hn
  obtain ⟨h1, h2, h3, h4, h5, h6, h7⟩ := h
  have done : ∀ {s}, getT lS s → DoneS c last lS lM s := fun {s} hs => by
    rcases h7 s hs with h | h | h
    · cases h
    · have := hs.1; omega
    · exact h
  have step : ∀ {s a i}, getT lS s → Rch c s a → 0 ≤ a → 0 ≤ i → takesP c s a i → getT lM i ∧ getT lS (toM c i) := by
    intro s a i hs hr ha h0 ht
    have hz := rch_zero hr
    rcases Int.lt_or_le last a with hlt | hle
    · refine done hs last hl0 (Int.le_refl _) (fun b hb0 hb => hz.2 b hb0 (by omega)) i h0 ?_
      obtain ⟨x, hx, hxi⟩ := ht
      exact ⟨x, hx, by rw [← hxi]; exact step_same (fun m hm _ => ⟨fun _ => by have := hl m hm; omega, fun _ => hl m hm⟩) x⟩
    · exact done hs a ha hle hz.2 i h0 ht
  have age : ∀ {s a}, Rch c s a → 0 ≤ a := fun h => by
    induction h with
    | start => omega
    | move _ _ _ _ => omega
    | stay _ _ _ ih => omega
  have all : ∀ s a, Rch c s a → getT lS s := by
    intro s a hr
    induction hr with
    | start => exact h6
    | move hr h0 ht ih => exact (step ih hr (age hr) h0 ht).2
    | stay _ _ _ ih => exact ih
  exact ⟨fun s => ⟨fun h => ⟨0, h3 s h⟩, fun ⟨a, hr⟩ => all s a hr⟩, fun i => ⟨h4 i, fun ⟨s, a, hr, h0, ht⟩ => (step (all s a hr) hr (age hr) h0 ht).1⟩⟩
theorem mv_after (hv : validC c = true) {i : Int} (h0 : 0 ≤ i) (hi : i < (c.gMoves_l.length : Int)) : 0 ≤ (c.gMoves_l.getD i.toNat (⟨0, 0, 0, 0, 0⟩ : Mv)).gAfter ∧ (c.gMoves_l.getD i.toNat (⟨0, 0, 0, 0, 0⟩ : Mv)).gAfter ≤ 1000 := by
  obtain ⟨_, _, _, _, h5⟩ := validC_facts hv
  rw [List.all_eq_true] at h5
  have hm := getD_Q (Q := fun m => mvB c.gStates_n (maskF c) m = true) h5 (n := i.toNat) (⟨0, 0, 0, 0, 0⟩ : Mv) (by omega)
  simp only [mvB, Bool.and_eq_true, decide_eq_true_eq] at hm
  omega
theorem last_all {i : Int} (h : ∀ j, j < i.toNat → (c.gMoves_l.getD j (⟨0, 0, 0, 0, 0⟩ : Mv)).gAfter ≤ last) (hi : (c.gMoves_l.length : Int) ≤ i) : ∀ m ∈ c.gMoves_l, m.gAfter ≤ last := fun m hm => by
  obtain ⟨k, hk, rfl⟩ := List.mem_iff_getElem.1 hm
  have := h k (by omega)
  rw [List.getD_eq_getElem?_getD, List.getElem?_eq_getElem hk] at this; exact this
end

end Go.Proofs.Ytbbpgidmadlgmaa

