/- Walks of functions of this seat, printed by a program over the engine. Conditions: as each theorem says. -/
import Derived.Test.YtbbpgidmadlgmaaZdX12
namespace Go.Proofs.Ytbbpgidmadlgmaa
open Go.Eng Go.RowKit
set_option linter.unusedSimpArgs false
set_option linter.unusedVariables false
/-! a dead move left out -/
theorem idx_cons {α : Type} (p : α → Bool) (x : α) (l : List α) : indexF p (x :: l) = if p x then 0 else if indexF p l < 0 then -1 else indexF p l + 1 := by
  unfold indexF
  rw [List.findIdx?_cons]
  cases hp : p x with
  | true => rfl
  | false =>
    simp only [Bool.false_eq_true, if_false]
    cases List.findIdx? p l with
    | none => rfl
    | some k => show ((k + 1 : Nat) : Int) = _; rw [if_neg (by show ¬ ((k : Nat) : Int) < 0; omega)]; show ((k + 1 : Nat) : Int) = (k : Int) + 1; omega
theorem idx_find {α : Type} (p : α → Bool) (d : α) : ∀ l : List α, l.find? p = if indexF p l < 0 then none else some (l.getD (indexF p l).toNat d)
  | [] => rfl
  | x :: l => by
    rw [List.find?_cons, idx_cons, idx_find p d l]
    cases p x with
    | true => rfl
    | false =>
      simp only [Bool.false_eq_true, if_false]
      by_cases h : indexF p l < 0
      · rw [if_pos h, if_pos h]; rfl
      · rw [if_neg h, if_neg h, if_neg (show ¬ indexF p l + 1 < 0 by omega), show (indexF p l + 1).toNat = (indexF p l).toNat + 1 by omega]; rfl
theorem find_erase {α : Type} (p : α → Bool) : ∀ (l : List α) (d : Nat), indexF p l ≠ d → (l.take d ++ l.drop (d + 1)).find? p = l.find? p
  | [], d, _ => by simp
  | x :: l, 0, h => by
    rw [idx_cons] at h
    cases hp : p x with
    | true => rw [hp] at h; exact absurd rfl h
    | false => rw [List.find?_cons, hp]; rfl
  | x :: l, d + 1, h => by
    rw [List.take_succ_cons, List.drop_succ_cons, List.cons_append, List.find?_cons, List.find?_cons]
    cases hp : p x with
    | true => rfl
    | false =>
      refine find_erase p l d fun e => h ?_
      rw [idx_cons, hp, e]
      simp only [Bool.false_eq_true, if_false]
      rw [if_neg (show ¬ (d : Int) < 0 by omega)]; omega
theorem recs_drop {α : Type} {g : α → List Value} {s : Nat} {w : World} {a : Option Addr} {len : Nat} {l : List α} (h : Recs g s w a len l) (cap k : Nat) (hk : k ≤ len) (hc : len ≤ cap) : Recs g s w (subA a cap k s) (len - k) (l.drop k) := by
  have hl := h.len_eq
  refine ⟨by rw [List.length_drop, hl], h.size, h.pos, fun j v hj => ?_⟩
  have hsplit : l.flatMap g = (l.take k).flatMap g ++ (l.drop k).flatMap g := by rw [← List.flatMap_append, List.take_append_drop]
  have htk : ((l.take k).flatMap g).length = k * s := by rw [flat_len h.size, List.length_take]; congr 1; omega
  have hj2 : (l.flatMap g)[k * s + j]? = some v := by rw [hsplit, List.getElem?_append_right (by omega), htk, Nat.add_sub_cancel_left]; exact hj
  obtain ⟨p, hp, hcell⟩ := h.cells _ _ hj2
  subst hp
  unfold subA
  by_cases e : cap = k
  · have : l.drop k = [] := List.drop_eq_nil_of_le (by omega)
    rw [this] at hj; cases hj
  · rw [if_neg e]
    exact ⟨p.add (k * s), rfl, by rw [addr_add_add]; exact hcell⟩
def othC (c : Cht) (a : Option Addr) (k i j : Nat) : Cht := ⟨c.gStates_a, c.gStates_n, c.gStates_c, c.gStates_l, c.gInputs_a, c.gInputs_n, c.gInputs_c, c.gInputs_l, c.gStart, a, (c.gMoves_l.take i ++ c.gMoves_l.drop j).length, k, c.gMoves_l.take i ++ c.gMoves_l.drop j⟩
theorem oth_mem {c : Cht} {i j : Nat} {m : Mv} (h : m ∈ c.gMoves_l.take i ++ c.gMoves_l.drop j) : m ∈ c.gMoves_l := by
  rcases List.mem_append.1 h with h | h
  · exact List.mem_of_mem_take h
  · exact List.mem_of_mem_drop h
theorem oth_q {c : Cht} {w : World} (h : chtQ w c) {a : Option Addr} {k i j : Nat} (hr : (rowOf mvE a k 42 5 (c.gMoves_l.take i ++ c.gMoves_l.drop j)).holds w) : chtQ w (othC c a k i j) := by
  obtain ⟨q1, q2, q3, q4, q5, q6, q7, q8, q9, q10, _⟩ := h
  exact ⟨q1, q2, q3, q4, q5, q6, q7, ⟨(rowOf_cells hr).2.2, rowOf_cap hr⟩, rowOf_recs hr _ rfl (fun _ => rfl) (by decide), (fun y hy => q10 y (oth_mem hy)), trivial⟩
section
variable {c : Cht} {s a x d : Int} {l : List Int} {ad : Option Addr} {k : Nat}
theorem oth_valid (hv : validC c = true) (hl : c.gMoves_l.length = c.gMoves_n) {i j : Nat} (hij : i ≤ j) (hj : j ≤ c.gMoves_n) : validC (othC c ad k i j) = true := by
  have hf := validC_facts hv
  unfold validC at *
  simp only [Bool.and_eq_true, decide_eq_true_eq] at hv ⊢
  obtain ⟨⟨⟨⟨⟨⟨⟨⟨h1, h2⟩, h3⟩, h4⟩, h5⟩, h6⟩, h7⟩, h8⟩, h9⟩ := hv
  refine ⟨⟨⟨⟨⟨⟨⟨⟨h1, h2⟩, h3⟩, h4⟩, h5⟩, h6⟩, h7⟩, ?_⟩, ?_⟩
  · show (c.gMoves_l.take i ++ c.gMoves_l.drop j).length ≤ 100
    rw [List.length_append, List.length_take, List.length_drop]; omega
  · rw [List.all_eq_true] at h9 ⊢
    exact fun m hm => h9 m (oth_mem hm)
theorem step_find (c : Cht) (s a x : Int) : stepS c s a x = (match c.gMoves_l.find? (fitB s a x) with | none => s | some m => m.gTo) ∧ stepA c s a x = (match c.gMoves_l.find? (fitB s a x) with | none => min (a + 1) 1000 | some _ => 0) := by
  rw [idx_find (fitB s a x) (⟨0, 0, 0, 0, 0⟩ : Mv)]
  unfold stepS stepA stepI
  by_cases h : indexF (fitB s a x) c.gMoves_l < 0
  · rw [if_pos h, if_pos h, if_pos h]; exact ⟨rfl, rfl⟩
  · rw [if_neg h, if_neg h, if_neg h]; exact ⟨rfl, rfl⟩
theorem oth_step (h0 : 0 ≤ d) (hne : stepI c s a x ≠ d) : stepS (othC c ad k d.toNat (d + 1).toNat) s a x = stepS c s a x ∧ stepA (othC c ad k d.toNat (d + 1).toNat) s a x = stepA c s a x := by
  have he : (othC c ad k d.toNat (d + 1).toNat).gMoves_l.find? (fitB s a x) = c.gMoves_l.find? (fitB s a x) := by
    show (c.gMoves_l.take d.toNat ++ c.gMoves_l.drop (d + 1).toNat).find? _ = _
    rw [show (d + 1).toNat = d.toNat + 1 by omega]
    exact find_erase _ _ _ (by rw [Int.toNat_of_nonneg h0]; exact hne)
  obtain ⟨e1, e2⟩ := step_find c s a x
  obtain ⟨e3, e4⟩ := step_find (othC c ad k d.toNat (d + 1).toNat) s a x
  rw [e3, e4, he, ← e1, ← e2]; exact ⟨rfl, rfl⟩
theorem rch_step (hr : Rch c s a) (ha : 0 ≤ a ∧ a ≤ 1000) (hx : 0 ≤ x ∧ x < nIn c) : Rch c (stepS c s a x) (stepA c s a x) := by
  obtain ⟨m1, m2⟩ := step_moves c s a x
  by_cases h : stepI c s a x < 0
  · obtain ⟨e1, e2⟩ := m1 h
    rw [e1, e2]
    by_cases h2 : a < 1000
    · rw [show min (a + 1) 1000 = a + 1 by omega]; exact .stay hr ⟨x, hx, h⟩ h2
    · rw [show min (a + 1) 1000 = a by omega]; exact hr
  · obtain ⟨e1, e2⟩ := m2 h
    rw [e1, e2]; exact .move hr (by omega) ⟨x, hx, rfl⟩
theorem inside_in (h : insideB c x = true) : 0 ≤ x ∧ x < nIn c := by
  simp only [insideB, Bool.and_eq_true, decide_eq_true_eq] at h; exact h
theorem stF_rch (hv : validC c = true) (hin : ∀ j, j < l.length → insideB c (l.getD j 0) = true) : ∀ n, n ≤ l.length → Rch c (stF c l n).1 (stF c l n).2
  | 0, _ => .start
  | n + 1, h => rch_step (stF_rch hv hin n (by omega)) (stF_bounds hv l n).2 (inside_in (hin n (by omega)))
theorem run_reach (hr : runE c l = 0) : (runO c l).any (fun s => !(reachL c).any fun y => decide (s = y)) = false := by
  obtain ⟨hv, hl2, hin, hro⟩ := run_inv hr
  have hf := validC_facts hv
  rw [List.any_eq_false]
  intro s hs
  rw [hro] at hs
  unfold outF at hs
  obtain ⟨j, hj, rfl⟩ := List.mem_map.1 hs
  rw [List.mem_range] at hj
  have hb := (stF_bounds hv l (j + 1)).1
  have hm : (stF c l (j + 1)).1 ∈ reachL c := by
    rw [(reach_valid hv).1]
    exact selL_mem.2 ⟨hb.1, hb.2, ⟨_, stF_rch hv hin (j + 1) (by omega)⟩⟩
  have := any_mem.2 hm
  rw [this]; decide
theorem oth_stF (hv : validC c = true) (h0 : 0 ≤ d) (hn : ¬ RM c d) (hin : ∀ j, j < l.length → insideB c (l.getD j 0) = true) : ∀ n, n ≤ l.length → stF (othC c ad k d.toNat (d + 1).toNat) l n = stF c l n
  | 0, _ => rfl
  | n + 1, h => by
    have ih := oth_stF hv h0 hn hin n (by omega)
    show (stepS _ (stF _ l n).1 (stF _ l n).2 (l.getD n 0), stepA _ (stF _ l n).1 (stF _ l n).2 (l.getD n 0)) = (stepS c _ _ _, stepA c _ _ _)
    rw [ih]
    obtain ⟨e1, e2⟩ := oth_step (c := c) (ad := ad) (k := k) (s := (stF c l n).1) (a := (stF c l n).2) (x := l.getD n 0) h0 (fun e => hn ⟨_, _, stF_rch hv hin n (by omega), h0, _, inside_in (hin n (by omega)), e⟩)
    rw [e1, e2]
theorem oth_run (hl : c.gMoves_l.length = c.gMoves_n) (h0 : 0 ≤ d) (hd : d < (c.gMoves_n : Int)) (hn : ¬ RM c d) (hr : runE c l = 0) : runE (othC c ad k d.toNat (d + 1).toNat) l = 0 ∧ runO (othC c ad k d.toNat (d + 1).toNat) l = runO c l := by
  obtain ⟨hv, hl2, hin, hro⟩ := run_inv hr
  have h1 := run_ok (oth_valid (ad := ad) (k := k) hv hl (i := d.toNat) (j := (d + 1).toNat) (by omega) (by omega)) hl2 (none_out (c := othC c ad k d.toNat (d + 1).toNat) hin)
  refine ⟨h1.1, ?_⟩
  rw [h1.2, hro]
  unfold outF
  refine List.map_congr_left fun j hj => ?_
  rw [List.mem_range] at hj
  rw [oth_stF hv h0 hn hin (j + 1) (by omega)]
theorem dead_mem (hv : validC c = true) : d ∈ deadL c ↔ 0 ≤ d ∧ d < (c.gMoves_n : Int) ∧ ¬ RM c d := by rw [(reach_valid hv).2]; exact selL_mem
theorem dead_in (hv : validC c = true) : (deadL c).any (fun i => decide (i < 0) || decide ((c.gMoves_n : Int) ≤ i)) = false := by
  rw [List.any_eq_false]
  intro i hi
  have := (dead_mem hv).1 hi
  rw [Bool.not_eq_true, Bool.or_eq_false_iff]
  exact ⟨decide_eq_false (by omega), decide_eq_false (by omega)⟩
theorem start_in (hv : validC c = true) : (reachL c).any (fun y => decide (c.gStart = y)) = true := by
  have hf := validC_facts hv
  rw [any_mem, (reach_valid hv).1]
  exact selL_mem.2 ⟨by omega, by omega, 0, .start⟩
theorem from_dead (hv : validC c = true) (hl : c.gMoves_l.length = c.gMoves_n) {i : Int} (h0 : 0 ≤ i) (hi : i < (c.gMoves_n : Int)) (h : (reachL c).any (fun y => decide ((c.gMoves_l.getD i.toNat (⟨0, 0, 0, 0, 0⟩ : Mv)).gFrom = y)) = false) : (deadL c).any (fun y => decide (i = y)) = true := by
  rw [any_mem, dead_mem hv]
  refine ⟨h0, hi, fun ⟨s, a, hr, _, x, hx, hxi⟩ => ?_⟩
  have hb := rch_in hv hr
  have hf : (c.gMoves_l.getD i.toNat (⟨0, 0, 0, 0, 0⟩ : Mv)).gFrom = s := by
    have h1 := (indexF_at (⟨0, 0, 0, 0, 0⟩ : Mv) (q := fitB s a x) (l := c.gMoves_l) (by show 0 ≤ stepI c s a x; omega))
    have h2 := h1.2.1
    rw [show indexF (fitB s a x) c.gMoves_l = i from hxi] at h2
    simp only [fitB, Bool.and_eq_true, beq_iff_eq] at h2
    exact h2.1.1.1
  have hm : s ∈ reachL c := by rw [(reach_valid hv).1]; exact selL_mem.2 ⟨hb.1.1, hb.1.2, a, hr⟩
  rw [hf, any_mem.2 hm] at h; cases h
end

end Go.Proofs.Ytbbpgidmadlgmaa

