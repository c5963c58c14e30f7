/- Walks of functions of this seat, printed by a program over the engine. Conditions: as each theorem says. -/
import Derived.Test.YtpmkdhdcejcpfaaS6
namespace Go.Proofs.Ytpmkdhdcejcpfaa
open Go.Eng Go.RowKit
set_option linter.unusedSimpArgs false
set_option linter.unusedVariables false
theorem fault_zero {d : Db} (h : (faultF d).2 = 0) : ∀ k, k < d.gFrames_l.length → headErr d k = 0 ∧ ∀ j, j < (d.gFrames_l.getD k frm0).gSignals_l.length → sigErr (d.gFrames_l.getD k frm0) j = 0 := by
  intro k hk
  unfold faultF at h
  split at h
  · cases h
  · have := pick_zero h k hk
    unfold frmR at this
    split at this
    · rename_i h2; exact absurd this h2
    · rename_i h2; exact ⟨by simpa using h2, sigs_zero this⟩
theorem sig_zero {f : Frm} {k : Nat} (h : sigErr f k = 0) : sigOK (f.gSignals_l.getD k sig0) = true ∧ (∀ b ∈ sbits (f.gSignals_l.getD k sig0), outB f b = false) ∧ ∀ x ∈ f.gSignals_l.take k, lapB (f.gSignals_l.getD k sig0) x = false := by
  unfold sigErr at h
  split at h
  · omega
  rename_i h1
  split at h
  · omega
  rename_i h2
  split at h
  · omega
  rename_i h3
  simp only [Bool.not_eq_true, Bool.not_eq_false, List.any_eq_false] at h1 h2 h3
  refine ⟨h1, h2, fun x hx => ?_⟩
  have := h3 x hx
  simp only [Bool.or_eq_false_iff] at this
  exact this.2
theorem head_zero {d : Db} {k : Nat} (h : headErr d k = 0) : (1 ≤ (d.gFrames_l.getD k frm0).gLength ∧ (d.gFrames_l.getD k frm0).gLength ≤ 8) ∧ ∀ j, j < k → k ≤ d.gFrames_l.length → twinB (d.gFrames_l.getD k frm0) (d.gFrames_l.getD j frm0) = false := by
  unfold headErr at h
  split at h
  · omega
  split at h
  · omega
  rename_i h2
  split at h
  · omega
  split at h
  · omega
  rename_i h4
  refine ⟨?_, fun j hj hk => ?_⟩
  · cases hx : inB (d.gFrames_l.getD k frm0).gLength 1 8 with
    | true => exact inB_iff.1 hx
    | false => exact absurd (show hdBad (d.gFrames_l.getD k frm0) = true by unfold hdBad; rw [hx]; simp) h2
  · simp only [Bool.not_eq_true, List.any_eq_false] at h4
    have e : (d.gFrames_l.take k)[j]'(by simp; omega) = d.gFrames_l.getD j frm0 := by simp [List.getD, show j < d.gFrames_l.length by omega]
    have := h4 _ (List.getElem_mem (l := d.gFrames_l.take k) (n := j) (by simp; omega))
    rwa [e] at this
theorem twin_no {f x : Frm} (h : twinB f x = false) : eqT x.gName f.gName = false ∧ x.gID ≠ f.gID := by
  unfold twinB at h
  simp only [Bool.or_eq_false_iff, beq_eq_false_iff_ne] at h
  exact h
/-- the place of a bit on the way -/
def lin (b : Int) : Int := 8 * (b / 8) + (7 - b % 8)
theorem lin_iter {b : Int} (k : Nat) : lin (iterB true b k) = lin b + k := by
  induction k with
  | zero => simp [iterB]
  | succ k ih => rw [iterB]; unfold nextB; rw [if_pos rfl]; unfold lin at *; split <;> omega
theorem iter_inj {m : Bool} {b : Int} {j k : Nat} (h : iterB m b j = iterB m b k) : j = k := by
  cases m with
  | false => rw [iterB_up, iterB_up] at h; omega
  | true => have h1 := lin_iter (b := b) j; have h2 := lin_iter (b := b) k; rw [h] at h1; omega
theorem sbits_inj {s : Sig} {j k : Nat} (hj : j < (sbits s).length) (hk : k < (sbits s).length) (h : (sbits s).getD j 0 = (sbits s).getD k 0) : j = k := by
  by_cases hv : sigOK s = true
  · have hv' : sigB s.gName s.gStart s.gLength s.gMotorola s.gSigned s.gNum s.gOff s.gDen s.gLow s.gHigh = true := hv
    have hl := bits_len hv'
    unfold sbits at hj hk h
    cases hm : s.gMotorola with
    | false =>
      rw [bits_i hv' hm] at hj hk h
      rw [seqF_length] at hj hk
      rw [seqF_getD _ _ hj, seqF_getD _ _ hk] at h
      exact iter_inj h
    | true =>
      rw [bits_m hv' hm] at hj hk h
      rw [List.length_reverse] at hj hk
      rw [rev_getD hj, rev_getD hk, seqF_length] at h
      rw [seqF_length] at hj hk
      rw [seqF_getD _ _ (by omega), seqF_getD _ _ (by omega)] at h
      have := iter_inj h; omega
  · have hv' : sigB s.gName s.gStart s.gLength s.gMotorola s.gSigned s.gNum s.gOff s.gDen s.gLow s.gHigh = false := by simpa [sigOK] using hv
    have := bits_none hv'
    unfold sbits at hj; omega
/-- the bits that are taken -/
def takenB (f : Frm) (j n : Nat) : Bool := (f.gSignals_l.take j).any fun x => (sbits x).any fun b => b.toNat == n
theorem taken_next (f : Frm) {j : Int} (h0 : 0 ≤ j) (hj : j < (f.gSignals_l.length : Int)) (n : Nat) : takenB f (j + 1).toNat n = (takenB f j.toNat n || (sbits (f.gSignals_l.getD j.toNat sig0)).any fun b => b.toNat == n) := by
  have e : f.gSignals_l.take (j.toNat + 1) = f.gSignals_l.take j.toNat ++ [f.gSignals_l.getD j.toNat sig0] := by
    rw [List.take_succ_eq_append_getElem (by omega)]; simp [List.getD, show j.toNat < f.gSignals_l.length by omega]
  rw [show (j + 1).toNat = j.toNat + 1 by omega]
  unfold takenB
  rw [e, List.any_append, List.any_cons, List.any_nil, Bool.or_false]
theorem take_at {l : List Int} {m k : Nat} (hk : k < m) (hm : m ≤ l.length) {h : k < (l.take m).length} : (l.take m)[k] = l.getD k 0 := by simp [List.getD, show k < l.length by omega]
theorem getD_setB {tl : List Bool} {a n : Nat} (ha : a < tl.length) : (tl.set a true).getD n false = (tl.getD n false || a == n) := by
  simp only [List.getD, List.getElem?_set]
  by_cases e : a = n
  · subst e; rw [if_pos rfl, if_pos ha]; simp
  · rw [if_neg e, beq_eq_false_iff_ne.2 e, Bool.or_false]
theorem free_bit {f : Frm} {j m : Nat} (hz : sigErr f j = 0) (hm : m < (sbits (f.gSignals_l.getD j sig0)).length) :
    (takenB f j ((sbits (f.gSignals_l.getD j sig0)).getD m 0).toNat || ((sbits (f.gSignals_l.getD j sig0)).take m).any fun b => b.toNat == ((sbits (f.gSignals_l.getD j sig0)).getD m 0).toNat) = false := by
  obtain ⟨h1, h2, h3⟩ := sig_zero hz
  have hb := sbits_pos (s := f.gSignals_l.getD j sig0) _ (getD_mem (n := m) 0 hm)
  rw [Bool.or_eq_false_iff]
  constructor
  · unfold takenB
    rw [List.any_eq_false]
    intro x hx
    have h4 := h3 x hx
    simp only [lapB, Bool.not_eq_true, List.any_eq_false] at h4 ⊢
    intro c hc
    rw [beq_eq_false_iff_ne]
    intro he
    have h5 := sbits_pos c hc
    have h6 := h4 c hc
    have : c = (sbits (f.gSignals_l.getD j sig0)).getD m 0 := by omega
    rw [this, List.contains_iff_mem.2 (getD_mem 0 hm)] at h6
    cases h6
  · rw [List.any_eq_false]
    intro b hb2
    obtain ⟨k, hk, rfl⟩ := List.mem_iff_getElem.1 hb2
    simp only [List.length_take] at hk
    rw [take_at (by omega) (by omega)]
    simp only [Bool.not_eq_true, beq_eq_false_iff_ne]
    intro he
    have h5 := sbits_pos (s := f.gSignals_l.getD j sig0) _ (getD_mem (n := k) 0 (by omega))
    have := sbits_inj (s := f.gSignals_l.getD j sig0) (j := k) (k := m) (by omega) hm (by omega)
    omega
theorem set_bit {tl : List Bool} {q : Nat → Bool} {l : List Int} {m : Int} (h64 : tl.length = 64) (h0 : 0 ≤ m) (hm : m < (l.length : Int)) (hb : 0 ≤ l.getD m.toNat 0 ∧ l.getD m.toNat 0 < 64) (h : ∀ n, n < 64 → tl.getD n false = (q n || (l.take m.toNat).any fun b => b.toNat == n)) :
    ∀ n, n < 64 → (tl.set (l.getD m.toNat 0).toNat true).getD n false = (q n || (l.take (m + 1).toNat).any fun b => b.toNat == n) := by
  intro n hn
  rw [show (m + 1).toNat = m.toNat + 1 by omega, take_getD (by omega), List.any_append, List.any_cons, List.any_nil, Bool.or_false, ← Bool.or_assoc, ← h n hn]
  rw [getD_setB (by omega)]
theorem taken_start (f : Frm) (n : Nat) : (List.replicate 64 false).getD n false = takenB f (0 : Int).toNat n := by
  unfold takenB
  simp only [Int.toNat_zero, List.take_zero, List.any_nil, List.getD, List.getElem?_replicate]
  split <;> rfl

theorem hb17 : HasBody Try.prog 17 := fun _ _ => by kernel_rfl
noncomputable def K17_0 : List Item := adv 2 [] (bodyOf Try.f17)
noncomputable def K17_1 : List Item := adv 6 [] (popK (popK K17_0))
noncomputable def K17_2 : List Item := adv 5 [] (popK K17_1)
noncomputable def K17_3 : List Item := adv 5 [] K17_2
noncomputable def K17_4 : List Item := adv 6 [true] K17_3
noncomputable def K17_5 : List Item := adv 4 [] (popK (popK (popK (popK K17_4))))
noncomputable def K17_6 : List Item := adv 3 [] (popK K17_5)
noncomputable def K17_7 : List Item := adv 3 [true] K17_6
noncomputable def K17_8 : List Item := adv 2 [] (popK (popK K17_7))
noncomputable def K17_9 : List Item := adv 5 [false] K17_6
noncomputable def K17_10 : List Item := adv 5 [false] K17_3
noncomputable def K17_11 : List Item := adv 2 [] (popK K17_10)
set_option maxRecDepth 20000 in
set_option maxHeartbeats 20000000 in
theorem frameat_any (d : Db) (id_ : Int) (k : Nat) (w : World) (hd : dbQ w d) (hk : k < d.gFrames_l.length) (hid : (d.gFrames_l.getD k frm0).gID = id_) (hne : ∀ j, j < k → (d.gFrames_l.getD j frm0).gID ≠ id_) : Ret Try.prog 17 #[.agg #[.slice d.gFrames_a d.gFrames_n d.gFrames_c], .int .i64 id_] w (fun v w' => v = .tuple #[.agg #[.string ((d.gFrames_l.getD k frm0).gName), .int .i64 ((d.gFrames_l.getD k frm0).gID), .int .i64 ((d.gFrames_l.getD k frm0).gLength), .bool ((d.gFrames_l.getD k frm0).gGuarded), .slice ((d.gFrames_l.getD k frm0).gSignals_a) ((d.gFrames_l.getD k frm0).gSignals_n) ((d.gFrames_l.getD k frm0).gSignals_c)], .bool true] ∧ Sep w [] w') := by
  have S0 := Sep.refl w
  refine Ret.named fun R hR => ?_
  refine Ret.of_J (N := 22) [(0, .agg #[.slice d.gFrames_a d.gFrames_n d.gFrames_c]), (1, .int .i64 id_)] Try.func17 rfl rfl (Nat.le_of_ble_eq_true (by kernel_rfl)) (by kernel_rfl) ?_
  obtain ⟨q1, q2, q3, _⟩ := id hd
  have ql1 := q2.len_eq
  refine J.run 2 K17_0 [(0, .agg #[.slice d.gFrames_a d.gFrames_n d.gFrames_c]), (1, .int .i64 id_)] w (by kernel_rfl) ?_
  refine J.new S0 2 [.slice d.gFrames_a d.gFrames_n d.gFrames_c] 33 (by kernel_rfl) ?_
  intro b1 w1 S1
  refine J.new S1 4 [.string ByteArray.empty, .int .i64 0, .int .i64 0, .bool false, .slice none 0 0] 42 (by kernel_rfl) ?_
  intro b2 w2 S2
  refine J.run 6 K17_1 [(8, .pointer (some ⟨b1, 0, none⟩)), (4, .pointer (some ⟨b2, 0, none⟩)), (1, .int .i64 id_)] w2 (by kernel_rfl) ?_
  refine J.ok (OK.ldBox S2 1 9 31 0 (.slice d.gFrames_a d.gFrames_n d.gFrames_c) (by kernel_rfl) rfl (by kernel_rfl)) ?_
  refine J.run 5 K17_2 [(11, .int .i64 0), (10, .int .i64 (d.gFrames_n : Int)), (9, .slice d.gFrames_a d.gFrames_n d.gFrames_c), (4, .pointer (some ⟨b2, 0, none⟩)), (1, .int .i64 id_)] w2 (by kernel_rfl) ?_
  have L17_1 : ∀ (mm_ : Nat) (i : Int) (w3 : World), (0 ≤ i) → (i ≤ (k : Int)) → Sep w [box b2 [.string ByteArray.empty, .int .i64 0, .int .i64 0, .bool false, .slice none 0 0] 42, box b1 [.slice d.gFrames_a d.gFrames_n d.gFrames_c] 33] w3 → ((d.gFrames_n : Int) - i).toNat = mm_ → J Try.prog 17 22 R K17_2 [(11, .int .i64 i), (10, .int .i64 (d.gFrames_n : Int)), (9, .slice d.gFrames_a d.gFrames_n d.gFrames_c), (4, .pointer (some ⟨b2, 0, none⟩)), (1, .int .i64 id_)] w3 := by
    intro mm1
    induction mm1 using Nat.strongRecOn with
    | _ mm1 ih1 =>
    intro i w3 h0 h1 S3 hm1
    refine J.run 5 K17_3 [(12, .bool (decide (i < (d.gFrames_n : Int)))), (11, .int .i64 i), (10, .int .i64 (d.gFrames_n : Int)), (9, .slice d.gFrames_a d.gFrames_n d.gFrames_c), (4, .pointer (some ⟨b2, 0, none⟩)), (1, .int .i64 id_)] w3 (by kernel_rfl) ?_
    by_cases fk1 : i < (d.gFrames_n : Int)
    · skip
      refine J.head (.bool true) (congrArg Value.bool (decide_eq_true fk1)) ?_
      refine J.run 6 K17_4 [(11, .int .i64 i), (10, .int .i64 (d.gFrames_n : Int)), (9, .slice d.gFrames_a d.gFrames_n d.gFrames_c), (4, .pointer (some ⟨b2, 0, none⟩)), (1, .int .i64 id_)] w3 (by kernel_rfl) ?_
      obtain ⟨p1, hp1, hc1⟩ := q2.at frm0 (i).toNat (by omega)
      have hq1 := getD_Q q3 frm0 (n := (i).toNat) (by have := q2.len_eq; omega)
      obtain ⟨q4, q5, q6, q7, q8, q9, _⟩ := id hq1
      have ql2 := q8.len_eq
      refine J.ok (OK.index 13 31 5 d.gFrames_a p1 d.gFrames_n (i).toNat i (p1.add ((i).toNat * 5)) (by kernel_rfl) (by kernel_rfl) hp1 (by omega) (by omega) rfl) ?_
      refine J.ok (OK.ldCells 14 42 (p1.add ((i).toNat * 5)) [.string ((d.gFrames_l.getD (i).toNat frm0).gName), .int .i64 ((d.gFrames_l.getD (i).toNat frm0).gID), .int .i64 ((d.gFrames_l.getD (i).toNat frm0).gLength), .bool ((d.gFrames_l.getD (i).toNat frm0).gGuarded), .slice ((d.gFrames_l.getD (i).toNat frm0).gSignals_a) ((d.gFrames_l.getD (i).toNat frm0).gSignals_n) ((d.gFrames_l.getD (i).toNat frm0).gSignals_c)] (by kernel_rfl) (by kernel_rfl) (by kernel_rfl) (fun j_ v_ hj_ => S3.cell (hc1 j_ v_ hj_))) ?_
      refine J.new S3 7 [.string ByteArray.empty, .int .i64 0, .int .i64 0, .bool false, .slice none 0 0] 42 (by kernel_rfl) ?_
      intro b3 w4 S4
      refine J.stBox S4 0 42 0 (.agg #[.string ((d.gFrames_l.getD (i).toNat frm0).gName), .int .i64 ((d.gFrames_l.getD (i).toNat frm0).gID), .int .i64 ((d.gFrames_l.getD (i).toNat frm0).gLength), .bool ((d.gFrames_l.getD (i).toNat frm0).gGuarded), .slice ((d.gFrames_l.getD (i).toNat frm0).gSignals_a) ((d.gFrames_l.getD (i).toNat frm0).gSignals_n) ((d.gFrames_l.getD (i).toNat frm0).gSignals_c)]) [.string ((d.gFrames_l.getD (i).toNat frm0).gName), .int .i64 ((d.gFrames_l.getD (i).toNat frm0).gID), .int .i64 ((d.gFrames_l.getD (i).toNat frm0).gLength), .bool ((d.gFrames_l.getD (i).toNat frm0).gGuarded), .slice ((d.gFrames_l.getD (i).toNat frm0).gSignals_a) ((d.gFrames_l.getD (i).toNat frm0).gSignals_n) ((d.gFrames_l.getD (i).toNat frm0).gSignals_c)] [box b3 [.string ((d.gFrames_l.getD (i).toNat frm0).gName), .int .i64 ((d.gFrames_l.getD (i).toNat frm0).gID), .int .i64 ((d.gFrames_l.getD (i).toNat frm0).gLength), .bool ((d.gFrames_l.getD (i).toNat frm0).gGuarded), .slice ((d.gFrames_l.getD (i).toNat frm0).gSignals_a) ((d.gFrames_l.getD (i).toNat frm0).gSignals_n) ((d.gFrames_l.getD (i).toNat frm0).gSignals_c)] 42, box b2 [.string ByteArray.empty, .int .i64 0, .int .i64 0, .bool false, .slice none 0 0] 42, box b1 [.slice d.gFrames_a d.gFrames_n d.gFrames_c] 33] (by kernel_rfl) rfl (by kernel_rfl) (by kernel_rfl) rfl ?_
      intro w5 S5
      refine J.run 4 K17_5 [(15, .pointer (some ⟨b3, 1, none⟩)), (7, .pointer (some ⟨b3, 0, none⟩)), (11, .int .i64 i), (10, .int .i64 (d.gFrames_n : Int)), (9, .slice d.gFrames_a d.gFrames_n d.gFrames_c), (4, .pointer (some ⟨b2, 0, none⟩)), (1, .int .i64 id_)] w5 (by kernel_rfl) ?_
      refine J.ok (OK.ldBox S5 0 16 3 1 (.int .i64 ((d.gFrames_l.getD (i).toNat frm0).gID)) (by kernel_rfl) rfl (by kernel_rfl)) ?_
      refine J.run 3 K17_6 [(18, .bool (((d.gFrames_l.getD (i).toNat frm0).gID) == id_)), (7, .pointer (some ⟨b3, 0, none⟩)), (11, .int .i64 i), (10, .int .i64 (d.gFrames_n : Int)), (9, .slice d.gFrames_a d.gFrames_n d.gFrames_c), (4, .pointer (some ⟨b2, 0, none⟩)), (1, .int .i64 id_)] w5 (by kernel_rfl) ?_
      by_cases fk2 : ((d.gFrames_l.getD (i).toNat frm0).gID) = id_
      · skip
        refine J.head (.bool true) (congrArg Value.bool (beq_iff_eq.2 fk2)) ?_
        refine J.run 3 K17_7 [(7, .pointer (some ⟨b3, 0, none⟩)), (4, .pointer (some ⟨b2, 0, none⟩))] w5 (by kernel_rfl) ?_
        refine J.ok (OK.ldBox S5 0 19 42 0 (.agg #[.string ((d.gFrames_l.getD (i).toNat frm0).gName), .int .i64 ((d.gFrames_l.getD (i).toNat frm0).gID), .int .i64 ((d.gFrames_l.getD (i).toNat frm0).gLength), .bool ((d.gFrames_l.getD (i).toNat frm0).gGuarded), .slice ((d.gFrames_l.getD (i).toNat frm0).gSignals_a) ((d.gFrames_l.getD (i).toNat frm0).gSignals_n) ((d.gFrames_l.getD (i).toNat frm0).gSignals_c)]) (by kernel_rfl) rfl (by kernel_rfl)) ?_
        refine J.stBox S5 1 42 0 (.agg #[.string ((d.gFrames_l.getD (i).toNat frm0).gName), .int .i64 ((d.gFrames_l.getD (i).toNat frm0).gID), .int .i64 ((d.gFrames_l.getD (i).toNat frm0).gLength), .bool ((d.gFrames_l.getD (i).toNat frm0).gGuarded), .slice ((d.gFrames_l.getD (i).toNat frm0).gSignals_a) ((d.gFrames_l.getD (i).toNat frm0).gSignals_n) ((d.gFrames_l.getD (i).toNat frm0).gSignals_c)]) [.string ((d.gFrames_l.getD (i).toNat frm0).gName), .int .i64 ((d.gFrames_l.getD (i).toNat frm0).gID), .int .i64 ((d.gFrames_l.getD (i).toNat frm0).gLength), .bool ((d.gFrames_l.getD (i).toNat frm0).gGuarded), .slice ((d.gFrames_l.getD (i).toNat frm0).gSignals_a) ((d.gFrames_l.getD (i).toNat frm0).gSignals_n) ((d.gFrames_l.getD (i).toNat frm0).gSignals_c)] [box b3 [.string ((d.gFrames_l.getD (i).toNat frm0).gName), .int .i64 ((d.gFrames_l.getD (i).toNat frm0).gID), .int .i64 ((d.gFrames_l.getD (i).toNat frm0).gLength), .bool ((d.gFrames_l.getD (i).toNat frm0).gGuarded), .slice ((d.gFrames_l.getD (i).toNat frm0).gSignals_a) ((d.gFrames_l.getD (i).toNat frm0).gSignals_n) ((d.gFrames_l.getD (i).toNat frm0).gSignals_c)] 42, box b2 [.string ((d.gFrames_l.getD (i).toNat frm0).gName), .int .i64 ((d.gFrames_l.getD (i).toNat frm0).gID), .int .i64 ((d.gFrames_l.getD (i).toNat frm0).gLength), .bool ((d.gFrames_l.getD (i).toNat frm0).gGuarded), .slice ((d.gFrames_l.getD (i).toNat frm0).gSignals_a) ((d.gFrames_l.getD (i).toNat frm0).gSignals_n) ((d.gFrames_l.getD (i).toNat frm0).gSignals_c)] 42, box b1 [.slice d.gFrames_a d.gFrames_n d.gFrames_c] 33] (by kernel_rfl) rfl (by kernel_rfl) (by kernel_rfl) rfl ?_
        intro w6 S6
        refine J.run 2 K17_8 [(5, .bool true), (4, .pointer (some ⟨b2, 0, none⟩))] w6 (by kernel_rfl) ?_
        refine J.ret Try.f17 [.agg #[.string ((d.gFrames_l.getD (i).toNat frm0).gName), .int .i64 ((d.gFrames_l.getD (i).toNat frm0).gID), .int .i64 ((d.gFrames_l.getD (i).toNat frm0).gLength), .bool ((d.gFrames_l.getD (i).toNat frm0).gGuarded), .slice ((d.gFrames_l.getD (i).toNat frm0).gSignals_a) ((d.gFrames_l.getD (i).toNat frm0).gSignals_n) ((d.gFrames_l.getD (i).toNat frm0).gSignals_c)], .bool true] Try.func17 ⟨⟨⟨b2, 0, none⟩, by kernel_rfl, ldV_run (S6.nth 1 rfl) (by kernel_rfl)⟩, by kernel_rfl, trivial⟩ ?_
        refine hR _ _ ?_
        have e : i.toNat = k := by have := hne i.toNat; omega
        exact ⟨by rw [tup_two, e], S6.nil⟩
      · skip
        refine J.head (.bool false) (congrArg Value.bool (beq_eq_false_iff_ne.2 fk2)) ?_
        refine J.run 5 K17_9 [(20, .int .i64 (IntKind.wrap .i64 (i + 1))), (10, .int .i64 (d.gFrames_n : Int)), (9, .slice d.gFrames_a d.gFrames_n d.gFrames_c), (4, .pointer (some ⟨b2, 0, none⟩)), (1, .int .i64 id_)] w5 (by kernel_rfl) ?_
        refine J.head (.int .i64 (i + 1)) (congrArg (Value.int .i64) (IntWalk.i64_in _ (by omega))) ?_
        refine J.run 3 K17_2 [(11, .int .i64 (i + 1)), (10, .int .i64 (d.gFrames_n : Int)), (9, .slice d.gFrames_a d.gFrames_n d.gFrames_c), (4, .pointer (some ⟨b2, 0, none⟩)), (1, .int .i64 id_)] w5 (by kernel_rfl) ?_
        have S7 : Sep w [box b2 [.string ByteArray.empty, .int .i64 0, .int .i64 0, .bool false, .slice none 0 0] 42, box b1 [.slice d.gFrames_a d.gFrames_n d.gFrames_c] 33] w5 := S5.erase 0
        clear S5
        refine J.run 0 K17_2 [(11, .int .i64 (i + 1)), (10, .int .i64 (d.gFrames_n : Int)), (9, .slice d.gFrames_a d.gFrames_n d.gFrames_c), (4, .pointer (some ⟨b2, 0, none⟩)), (1, .int .i64 id_)] w5 (by kernel_rfl) ?_
        exact ih1 _ (show ((d.gFrames_n : Int) - (i + 1)).toNat < mm1 from by omega) (i + 1) w5 (by omega) (by rcases (show i < (k : Int) ∨ i.toNat = k by omega) with h_ | h_; omega; exact absurd (by rw [h_]; exact hid) fk2) S7 rfl
    · skip
      refine J.head (.bool false) (congrArg Value.bool (decide_eq_false fk1)) ?_
      refine J.run 5 K17_10 [(21, .agg #[.string ByteArray.empty, .int .i64 0, .int .i64 0, .bool false, .slice none 0 0]), (4, .pointer (some ⟨b2, 0, none⟩))] w3 (by kernel_rfl) ?_
      refine J.stBox S3 0 42 0 (.agg #[.string ByteArray.empty, .int .i64 0, .int .i64 0, .bool false, .slice none 0 0]) [.string ByteArray.empty, .int .i64 0, .int .i64 0, .bool false, .slice none 0 0] [box b2 [.string ByteArray.empty, .int .i64 0, .int .i64 0, .bool false, .slice none 0 0] 42, box b1 [.slice d.gFrames_a d.gFrames_n d.gFrames_c] 33] (by kernel_rfl) rfl (by kernel_rfl) (by kernel_rfl) rfl ?_
      intro w7 S8
      refine J.run 2 K17_11 [(5, .bool false), (4, .pointer (some ⟨b2, 0, none⟩))] w7 (by kernel_rfl) ?_
      refine J.ret Try.f17 [.agg #[.string ByteArray.empty, .int .i64 0, .int .i64 0, .bool false, .slice none 0 0], .bool false] Try.func17 ⟨⟨⟨b2, 0, none⟩, by kernel_rfl, ldV_run (S8.nth 0 rfl) (by kernel_rfl)⟩, by kernel_rfl, trivial⟩ ?_
      refine hR _ _ ?_
      exfalso; omega
  exact L17_1 _ 0 w2 (by omega) (by omega) S2 rfl

theorem hb18 : HasBody Try.prog 18 := fun _ _ => by kernel_rfl
noncomputable def K18_0 : List Item := adv 2 [] (bodyOf Try.f18)
noncomputable def K18_1 : List Item := adv 6 [] (popK (popK K18_0))
noncomputable def K18_2 : List Item := adv 1 [] (popK K18_1)
noncomputable def K18_3 : List Item := adv 1 [] (popK K18_2)
noncomputable def K18_4 : List Item := adv 2 [] K18_3
noncomputable def K18_5 : List Item := adv 1 [] (popK K18_4)
noncomputable def K18_6 : List Item := adv 1 [] (popK K18_5)
noncomputable def K18_7 : List Item := adv 3 [] K18_6
noncomputable def K18_8 : List Item := adv 1 [] (popK K18_7)
noncomputable def K18_9 : List Item := adv 1 [] (popK K18_8)
noncomputable def K18_10 : List Item := adv 3 [] K18_9
noncomputable def K18_11 : List Item := adv 1 [] (popK K18_10)
noncomputable def K18_12 : List Item := adv 1 [] (popK K18_11)
noncomputable def K18_13 : List Item := adv 3 [] K18_12
noncomputable def K18_14 : List Item := adv 2 [] (popK K18_13)
noncomputable def K18_15 : List Item := adv 2 [] (popK K18_14)
noncomputable def K18_16 : List Item := adv 11 [false] K18_15
noncomputable def K18_17 : List Item := adv 5 [] K18_16
noncomputable def K18_18 : List Item := adv 3 [] (popK K18_17)
noncomputable def K18_19 : List Item := adv 5 [true] K18_18
noncomputable def K18_20 : List Item := adv 6 [false] (rRest K18_19)
noncomputable def K18_21 : List Item := adv 6 [false] K18_18
set_option maxRecDepth 20000 in
set_option maxHeartbeats 20000000 in
theorem same_any (f : Frm) (w : World) (hf : frmQ w f) : Ret Try.prog 18 #[.agg #[.string f.gName, .int .i64 f.gID, .int .i64 f.gLength, .bool f.gGuarded, .slice f.gSignals_a f.gSignals_n f.gSignals_c], .agg #[.string f.gName, .int .i64 f.gID, .int .i64 f.gLength, .bool f.gGuarded, .slice f.gSignals_a f.gSignals_n f.gSignals_c]] w (fun v w' => v = .bool true ∧ Sep w [] w') := by
  have S0 := Sep.refl w
  refine Ret.named fun R hR => ?_
  refine Ret.of_J (N := 59) [(0, .agg #[.string f.gName, .int .i64 f.gID, .int .i64 f.gLength, .bool f.gGuarded, .slice f.gSignals_a f.gSignals_n f.gSignals_c]), (1, .agg #[.string f.gName, .int .i64 f.gID, .int .i64 f.gLength, .bool f.gGuarded, .slice f.gSignals_a f.gSignals_n f.gSignals_c])] Try.func18 rfl rfl (Nat.le_of_ble_eq_true (by kernel_rfl)) (by kernel_rfl) ?_
  obtain ⟨q1, q2, q3, q4, q5, q6, _⟩ := id hf
  have ql1 := q5.len_eq
  refine J.run 2 K18_0 [(0, .agg #[.string f.gName, .int .i64 f.gID, .int .i64 f.gLength, .bool f.gGuarded, .slice f.gSignals_a f.gSignals_n f.gSignals_c]), (1, .agg #[.string f.gName, .int .i64 f.gID, .int .i64 f.gLength, .bool f.gGuarded, .slice f.gSignals_a f.gSignals_n f.gSignals_c])] w (by kernel_rfl) ?_
  refine J.new S0 2 [.string f.gName, .int .i64 f.gID, .int .i64 f.gLength, .bool f.gGuarded, .slice f.gSignals_a f.gSignals_n f.gSignals_c] 42 (by kernel_rfl) ?_
  intro b1 w1 S1
  refine J.new S1 3 [.string f.gName, .int .i64 f.gID, .int .i64 f.gLength, .bool f.gGuarded, .slice f.gSignals_a f.gSignals_n f.gSignals_c] 42 (by kernel_rfl) ?_
  intro b2 w2 S2
  refine J.run 6 K18_1 [(6, .pointer (some ⟨b1, 0, none⟩)), (3, .pointer (some ⟨b2, 0, none⟩)), (2, .pointer (some ⟨b1, 0, none⟩))] w2 (by kernel_rfl) ?_
  refine J.ok (OK.ldBox S2 1 7 9 0 (.string f.gName) (by kernel_rfl) rfl (by kernel_rfl)) ?_
  refine J.run 1 K18_2 [(8, .pointer (some ⟨b2, 0, none⟩)), (7, .string f.gName), (3, .pointer (some ⟨b2, 0, none⟩)), (2, .pointer (some ⟨b1, 0, none⟩))] w2 (by kernel_rfl) ?_
  refine J.ok (OK.ldBox S2 0 9 9 0 (.string f.gName) (by kernel_rfl) rfl (by kernel_rfl)) ?_
  refine J.run 1 K18_3 [(10, .bool (!(f.gName.toList == f.gName.toList))), (3, .pointer (some ⟨b2, 0, none⟩)), (2, .pointer (some ⟨b1, 0, none⟩))] w2 (by kernel_rfl) ?_
  refine J.head (.bool false) (congrArg Value.bool (by simp)) ?_
  refine J.run 2 K18_4 [(12, .pointer (some ⟨b1, 1, none⟩)), (11, .bool false), (3, .pointer (some ⟨b2, 0, none⟩)), (2, .pointer (some ⟨b1, 0, none⟩))] w2 (by kernel_rfl) ?_
  refine J.ok (OK.ldBox S2 1 13 3 1 (.int .i64 f.gID) (by kernel_rfl) rfl (by kernel_rfl)) ?_
  refine J.run 1 K18_5 [(14, .pointer (some ⟨b2, 1, none⟩)), (13, .int .i64 f.gID), (11, .bool false), (3, .pointer (some ⟨b2, 0, none⟩)), (2, .pointer (some ⟨b1, 0, none⟩))] w2 (by kernel_rfl) ?_
  refine J.ok (OK.ldBox S2 0 15 3 1 (.int .i64 f.gID) (by kernel_rfl) rfl (by kernel_rfl)) ?_
  refine J.run 1 K18_6 [(16, .bool (f.gID != f.gID)), (11, .bool false), (3, .pointer (some ⟨b2, 0, none⟩)), (2, .pointer (some ⟨b1, 0, none⟩))] w2 (by kernel_rfl) ?_
  refine J.head (.bool false) (congrArg Value.bool (by simp)) ?_
  refine J.run 3 K18_7 [(19, .pointer (some ⟨b1, 2, none⟩)), (18, .bool false), (3, .pointer (some ⟨b2, 0, none⟩)), (2, .pointer (some ⟨b1, 0, none⟩))] w2 (by kernel_rfl) ?_
  refine J.ok (OK.ldBox S2 1 20 3 2 (.int .i64 f.gLength) (by kernel_rfl) rfl (by kernel_rfl)) ?_
  refine J.run 1 K18_8 [(21, .pointer (some ⟨b2, 2, none⟩)), (20, .int .i64 f.gLength), (18, .bool false), (3, .pointer (some ⟨b2, 0, none⟩)), (2, .pointer (some ⟨b1, 0, none⟩))] w2 (by kernel_rfl) ?_
  refine J.ok (OK.ldBox S2 0 22 3 2 (.int .i64 f.gLength) (by kernel_rfl) rfl (by kernel_rfl)) ?_
  refine J.run 1 K18_9 [(23, .bool (f.gLength != f.gLength)), (18, .bool false), (3, .pointer (some ⟨b2, 0, none⟩)), (2, .pointer (some ⟨b1, 0, none⟩))] w2 (by kernel_rfl) ?_
  refine J.head (.bool false) (congrArg Value.bool (by simp)) ?_
  refine J.run 3 K18_10 [(26, .pointer (some ⟨b1, 3, none⟩)), (25, .bool false), (3, .pointer (some ⟨b2, 0, none⟩)), (2, .pointer (some ⟨b1, 0, none⟩))] w2 (by kernel_rfl) ?_
  refine J.ok (OK.ldBox S2 1 27 4 3 (.bool f.gGuarded) (by kernel_rfl) rfl (by kernel_rfl)) ?_
  refine J.run 1 K18_11 [(28, .pointer (some ⟨b2, 3, none⟩)), (27, .bool f.gGuarded), (25, .bool false), (3, .pointer (some ⟨b2, 0, none⟩)), (2, .pointer (some ⟨b1, 0, none⟩))] w2 (by kernel_rfl) ?_
  refine J.ok (OK.ldBox S2 0 29 4 3 (.bool f.gGuarded) (by kernel_rfl) rfl (by kernel_rfl)) ?_
  refine J.run 1 K18_12 [(30, .bool (!(f.gGuarded == f.gGuarded))), (25, .bool false), (3, .pointer (some ⟨b2, 0, none⟩)), (2, .pointer (some ⟨b1, 0, none⟩))] w2 (by kernel_rfl) ?_
  refine J.head (.bool false) (congrArg Value.bool (by simp)) ?_
  refine J.run 3 K18_13 [(33, .pointer (some ⟨b1, 4, none⟩)), (32, .bool false), (3, .pointer (some ⟨b2, 0, none⟩)), (2, .pointer (some ⟨b1, 0, none⟩))] w2 (by kernel_rfl) ?_
  refine J.ok (OK.ldBox S2 1 34 40 4 (.slice f.gSignals_a f.gSignals_n f.gSignals_c) (by kernel_rfl) rfl (by kernel_rfl)) ?_
  refine J.run 2 K18_14 [(36, .pointer (some ⟨b2, 4, none⟩)), (35, .int .i64 (f.gSignals_n : Int)), (32, .bool false), (3, .pointer (some ⟨b2, 0, none⟩)), (2, .pointer (some ⟨b1, 0, none⟩))] w2 (by kernel_rfl) ?_
  refine J.ok (OK.ldBox S2 0 37 40 4 (.slice f.gSignals_a f.gSignals_n f.gSignals_c) (by kernel_rfl) rfl (by kernel_rfl)) ?_
  refine J.run 2 K18_15 [(39, .bool ((f.gSignals_n : Int) != (f.gSignals_n : Int))), (32, .bool false), (3, .pointer (some ⟨b2, 0, none⟩)), (2, .pointer (some ⟨b1, 0, none⟩))] w2 (by kernel_rfl) ?_
  refine J.head (.bool false) (congrArg Value.bool (by simp)) ?_
  refine J.run 11 K18_16 [(5, .int .i64 0), (3, .pointer (some ⟨b2, 0, none⟩)), (2, .pointer (some ⟨b1, 0, none⟩))] w2 (by kernel_rfl) ?_
  have L18_1 : ∀ (mm_ : Nat) (i : Int) (w3 : World), (0 ≤ i) → (i ≤ (f.gSignals_n : Int)) → Sep w [box b2 [.string f.gName, .int .i64 f.gID, .int .i64 f.gLength, .bool f.gGuarded, .slice f.gSignals_a f.gSignals_n f.gSignals_c] 42, box b1 [.string f.gName, .int .i64 f.gID, .int .i64 f.gLength, .bool f.gGuarded, .slice f.gSignals_a f.gSignals_n f.gSignals_c] 42] w3 → ((f.gSignals_n : Int) - i).toNat = mm_ → J Try.prog 18 59 R K18_16 [(5, .int .i64 i), (3, .pointer (some ⟨b2, 0, none⟩)), (2, .pointer (some ⟨b1, 0, none⟩))] w3 := by
    intro mm1
    induction mm1 using Nat.strongRecOn with
    | _ mm1 ih1 =>
    intro i w3 h0 h1 S3 hm1
    refine J.run 5 K18_17 [(42, .pointer (some ⟨b1, 4, none⟩)), (41, .int .i64 i), (5, .int .i64 i), (3, .pointer (some ⟨b2, 0, none⟩)), (2, .pointer (some ⟨b1, 0, none⟩))] w3 (by kernel_rfl) ?_
    refine J.ok (OK.ldBox S3 1 43 40 4 (.slice f.gSignals_a f.gSignals_n f.gSignals_c) (by kernel_rfl) rfl (by kernel_rfl)) ?_
    refine J.run 3 K18_18 [(45, .bool (decide (i < (f.gSignals_n : Int)))), (5, .int .i64 i), (3, .pointer (some ⟨b2, 0, none⟩)), (2, .pointer (some ⟨b1, 0, none⟩))] w3 (by kernel_rfl) ?_
    by_cases fk1 : i < (f.gSignals_n : Int)
    · skip
      refine J.head (.bool true) (congrArg Value.bool (decide_eq_true fk1)) ?_
      refine J.run 5 K18_19 [(5, .int .i64 i), (3, .pointer (some ⟨b2, 0, none⟩)), (2, .pointer (some ⟨b1, 0, none⟩))] w3 (by kernel_rfl) ?_
      obtain ⟨p1, hp1, hc1⟩ := q5.at sig0 (i).toNat (by omega)
      have hq1 := getD_Q q6 sig0 (n := (i).toNat) (by have := q5.len_eq; omega)
      obtain ⟨q7, q8, q9, q10, q11, q12, q13, q14, _⟩ := id hq1
      refine J.drawStill S3 11 Try.mixed (by kernel_rfl) (by kernel_rfl) (by kernel_rfl) ?_
      intro w4 S4
      refine SL.ok (by decide) (OK.run 48 (.pointer (some ⟨b1, 4, none⟩)) (by kernel_rfl)) ?_
      refine SL.ok (by decide) (OK.ldBox S4 1 49 40 4 (.slice f.gSignals_a f.gSignals_n f.gSignals_c) (by kernel_rfl) rfl (by kernel_rfl)) ?_
      refine SL.ok (by decide) (OK.run 50 (.int .i64 i) (by kernel_rfl)) ?_
      refine SL.ok (by decide) (OK.index 51 40 10 f.gSignals_a p1 f.gSignals_n (i).toNat i (p1.add ((i).toNat * 10)) (by kernel_rfl) (by kernel_rfl) hp1 (by omega) (by omega) rfl) ?_
      refine SL.ok (by decide) (OK.ldCells 52 23 (p1.add ((i).toNat * 10)) [.string ((f.gSignals_l.getD (i).toNat sig0).gName), .int .i64 ((f.gSignals_l.getD (i).toNat sig0).gStart), .int .i64 ((f.gSignals_l.getD (i).toNat sig0).gLength), .bool ((f.gSignals_l.getD (i).toNat sig0).gMotorola), .bool ((f.gSignals_l.getD (i).toNat sig0).gSigned), .int .i64 ((f.gSignals_l.getD (i).toNat sig0).gNum), .int .i64 ((f.gSignals_l.getD (i).toNat sig0).gOff), .int .i64 ((f.gSignals_l.getD (i).toNat sig0).gDen), .int .i64 ((f.gSignals_l.getD (i).toNat sig0).gLow), .int .i64 ((f.gSignals_l.getD (i).toNat sig0).gHigh)] (by kernel_rfl) (by kernel_rfl) (by kernel_rfl) (fun j_ v_ hj_ => S4.cell (hc1 j_ v_ hj_))) ?_
      refine SL.ok (by decide) (OK.run 53 (.pointer (some ⟨b2, 4, none⟩)) (by kernel_rfl)) ?_
      refine SL.ok (by decide) (OK.ldBox S4 0 54 40 4 (.slice f.gSignals_a f.gSignals_n f.gSignals_c) (by kernel_rfl) rfl (by kernel_rfl)) ?_
      refine SL.ok (by decide) (OK.run 55 (.int .i64 i) (by kernel_rfl)) ?_
      refine SL.ok (by decide) (OK.index 56 40 10 f.gSignals_a p1 f.gSignals_n (i).toNat i (p1.add ((i).toNat * 10)) (by kernel_rfl) (by kernel_rfl) hp1 (by omega) (by omega) rfl) ?_
      refine SL.ok (by decide) (OK.ldCells 57 23 (p1.add ((i).toNat * 10)) [.string ((f.gSignals_l.getD (i).toNat sig0).gName), .int .i64 ((f.gSignals_l.getD (i).toNat sig0).gStart), .int .i64 ((f.gSignals_l.getD (i).toNat sig0).gLength), .bool ((f.gSignals_l.getD (i).toNat sig0).gMotorola), .bool ((f.gSignals_l.getD (i).toNat sig0).gSigned), .int .i64 ((f.gSignals_l.getD (i).toNat sig0).gNum), .int .i64 ((f.gSignals_l.getD (i).toNat sig0).gOff), .int .i64 ((f.gSignals_l.getD (i).toNat sig0).gDen), .int .i64 ((f.gSignals_l.getD (i).toNat sig0).gLow), .int .i64 ((f.gSignals_l.getD (i).toNat sig0).gHigh)] (by kernel_rfl) (by kernel_rfl) (by kernel_rfl) (fun j_ v_ hj_ => S4.cell (hc1 j_ v_ hj_))) ?_
      refine SL.ok (by decide) (OK.eqS 58 false 23 #[.string ((f.gSignals_l.getD (i).toNat sig0).gName), .int .i64 ((f.gSignals_l.getD (i).toNat sig0).gStart), .int .i64 ((f.gSignals_l.getD (i).toNat sig0).gLength), .bool ((f.gSignals_l.getD (i).toNat sig0).gMotorola), .bool ((f.gSignals_l.getD (i).toNat sig0).gSigned), .int .i64 ((f.gSignals_l.getD (i).toNat sig0).gNum), .int .i64 ((f.gSignals_l.getD (i).toNat sig0).gOff), .int .i64 ((f.gSignals_l.getD (i).toNat sig0).gDen), .int .i64 ((f.gSignals_l.getD (i).toNat sig0).gLow), .int .i64 ((f.gSignals_l.getD (i).toNat sig0).gHigh)] #[.string ((f.gSignals_l.getD (i).toNat sig0).gName), .int .i64 ((f.gSignals_l.getD (i).toNat sig0).gStart), .int .i64 ((f.gSignals_l.getD (i).toNat sig0).gLength), .bool ((f.gSignals_l.getD (i).toNat sig0).gMotorola), .bool ((f.gSignals_l.getD (i).toNat sig0).gSigned), .int .i64 ((f.gSignals_l.getD (i).toNat sig0).gNum), .int .i64 ((f.gSignals_l.getD (i).toNat sig0).gOff), .int .i64 ((f.gSignals_l.getD (i).toNat sig0).gDen), .int .i64 ((f.gSignals_l.getD (i).toNat sig0).gLow), .int .i64 ((f.gSignals_l.getD (i).toNat sig0).gHigh)] ((((f.gSignals_l.getD (i).toNat sig0).gName).toList == ((f.gSignals_l.getD (i).toNat sig0).gName).toList) && ((((f.gSignals_l.getD (i).toNat sig0).gStart) == ((f.gSignals_l.getD (i).toNat sig0).gStart)) && ((((f.gSignals_l.getD (i).toNat sig0).gLength) == ((f.gSignals_l.getD (i).toNat sig0).gLength)) && ((((f.gSignals_l.getD (i).toNat sig0).gMotorola) == ((f.gSignals_l.getD (i).toNat sig0).gMotorola)) && ((((f.gSignals_l.getD (i).toNat sig0).gSigned) == ((f.gSignals_l.getD (i).toNat sig0).gSigned)) && ((((f.gSignals_l.getD (i).toNat sig0).gNum) == ((f.gSignals_l.getD (i).toNat sig0).gNum)) && ((((f.gSignals_l.getD (i).toNat sig0).gOff) == ((f.gSignals_l.getD (i).toNat sig0).gOff)) && ((((f.gSignals_l.getD (i).toNat sig0).gDen) == ((f.gSignals_l.getD (i).toNat sig0).gDen)) && ((((f.gSignals_l.getD (i).toNat sig0).gLow) == ((f.gSignals_l.getD (i).toNat sig0).gLow)) && ((((f.gSignals_l.getD (i).toNat sig0).gHigh) == ((f.gSignals_l.getD (i).toNat sig0).gHigh)) && true)))))))))) (by kernel_rfl) (by kernel_rfl) (by kernel_rfl) false (by simp)) ?_
      refine SL.done ?_
      refine TL.done (by kernel_rfl) ?_
      refine J.run 0 (rRest K18_19) [(58, .bool false), (5, .int .i64 i), (3, .pointer (some ⟨b2, 0, none⟩)), (2, .pointer (some ⟨b1, 0, none⟩))] w4 (by kernel_rfl) ?_
      refine J.run 6 K18_20 [(47, .int .i64 (IntKind.wrap .i64 (i + 1))), (3, .pointer (some ⟨b2, 0, none⟩)), (2, .pointer (some ⟨b1, 0, none⟩))] w4 (by kernel_rfl) ?_
      refine J.head (.int .i64 (i + 1)) (congrArg (Value.int .i64) (IntWalk.i64_in _ (by omega))) ?_
      refine J.run 3 K18_16 [(5, .int .i64 (i + 1)), (3, .pointer (some ⟨b2, 0, none⟩)), (2, .pointer (some ⟨b1, 0, none⟩))] w4 (by kernel_rfl) ?_
      refine J.run 0 K18_16 [(5, .int .i64 (i + 1)), (3, .pointer (some ⟨b2, 0, none⟩)), (2, .pointer (some ⟨b1, 0, none⟩))] w4 (by kernel_rfl) ?_
      exact ih1 _ (show ((f.gSignals_n : Int) - (i + 1)).toNat < mm1 from by omega) (i + 1) w4 (by omega) (by omega) S4 rfl
    · skip
      refine J.head (.bool false) (congrArg Value.bool (decide_eq_false fk1)) ?_
      refine J.run 6 K18_21 [(4, .bool true)] w3 (by kernel_rfl) ?_
      refine J.ret Try.f18 [.bool true] Try.func18 ⟨by kernel_rfl, trivial⟩ ?_
      refine hR _ _ ?_
      exact ⟨rfl, S3.nil⟩
  exact L18_1 _ 0 w2 (by omega) (by omega) S2 rfl

theorem hb6 : HasBody Try.prog 6 := fun _ _ => by kernel_rfl
noncomputable def K6_0 : List Item := adv 2 [] (bodyOf Try.f6)
noncomputable def K6_1 : List Item := adv 5 [] (popK K6_0)
noncomputable def K6_2 : List Item := adv 7 [false] (popK K6_1)
noncomputable def K6_3 : List Item := adv 2 [] (popK (popK K6_2))
noncomputable def K6_4 : List Item := adv 3 [] (popK (popK K6_3))
noncomputable def K6_5 : List Item := adv 6 [false] K6_4
noncomputable def K6_6 : List Item := adv 5 [] (popK K6_5)
noncomputable def K6_7 : List Item := adv 5 [] K6_6
noncomputable def K6_8 : List Item := adv 7 [true] K6_7
noncomputable def K6_9 : List Item := adv 1 [] (popK (popK (popK K6_8)))
noncomputable def K6_10 : List Item := adv 3 [] (popK K6_9)
noncomputable def K6_11 : List Item := adv 5 [] (popK K6_10)
noncomputable def K6_12 : List Item := adv 5 [] (popK K6_11)
noncomputable def K6_13 : List Item := adv 5 [] K6_12
noncomputable def K6_14 : List Item := adv 6 [true] K6_13
noncomputable def K6_15 : List Item := adv 3 [] (popK (popK (popK (popK K6_14))))
noncomputable def K6_16 : List Item := adv 8 [] (popK (popK K6_15))
noncomputable def K6_17 : List Item := adv 2 [] (popK K6_16)
noncomputable def K6_18 : List Item := adv 10 [false] K6_17
noncomputable def K6_19 : List Item := adv 5 [] K6_18
noncomputable def K6_20 : List Item := adv 6 [true] K6_19
noncomputable def K6_21 : List Item := adv 8 [] (popK (popK K6_20))
noncomputable def K6_22 : List Item := adv 29 [true] K6_21
noncomputable def K6_23 : List Item := adv 2 [] K6_21
noncomputable def K6_24 : List Item := adv 1 [] (popK K6_23)
noncomputable def K6_25 : List Item := adv 3 [] K6_24
noncomputable def K6_26 : List Item := adv 22 [true] K6_25
noncomputable def K6_27 : List Item := adv 4 [] K6_25
noncomputable def K6_28 : List Item := adv 18 [true] K6_27
noncomputable def K6_29 : List Item := adv 1 [] K6_27
noncomputable def K6_30 : List Item := adv 2 [] (popK (popK K6_29))
noncomputable def K6_31 : List Item := adv 1 [] K6_30
noncomputable def K6_32 : List Item := adv 1 [] (popK K6_31)
noncomputable def K6_33 : List Item := adv 5 [] K6_32
noncomputable def K6_34 : List Item := adv 4 [false] K6_33
noncomputable def K6_35 : List Item := adv 4 [] (popK (popK K6_34))
noncomputable def K6_36 : List Item := adv 9 [false] K6_32
noncomputable def K6_37 : List Item := adv 4 [] (popK (popK K6_36))
noncomputable def K6_38 : List Item := adv 5 [false] K6_19
noncomputable def K6_39 : List Item := adv 5 [true] K6_17
noncomputable def K6_40 : List Item := adv 4 [false] K6_13
noncomputable def K6_41 : List Item := adv 1 [] (popK K6_40)
noncomputable def K6_42 : List Item := adv 3 [] (popK (popK K6_41))
noncomputable def K6_43 : List Item := adv 8 [] (popK (popK K6_42))
noncomputable def K6_44 : List Item := adv 8 [false] (popK (popK (popK K6_43)))
noncomputable def K6_45 : List Item := adv 1 [] (popK K6_44)
noncomputable def K6_46 : List Item := adv 5 [] (popK K6_45)
noncomputable def K6_47 : List Item := adv 5 [] K6_46
noncomputable def K6_48 : List Item := adv 6 [true] K6_47
noncomputable def K6_49 : List Item := adv 4 [] (popK (popK (popK (popK K6_48))))
noncomputable def K6_50 : List Item := adv 1 [] (popK K6_49)
noncomputable def K6_51 : List Item := adv 2 [] (popK K6_50)
noncomputable def K6_52 : List Item := adv 1 [] K6_51
noncomputable def K6_53 : List Item := adv 1 [] (popK K6_52)
noncomputable def K6_54 : List Item := adv 3 [] (popK K6_53)
noncomputable def K6_55 : List Item := adv 5 [true] K6_54
noncomputable def K6_56 : List Item := adv 5 [false] K6_54
noncomputable def K6_57 : List Item := adv 5 [false] K6_47
noncomputable def K6_58 : List Item := adv 6 [false] K6_7
noncomputable def K6_59 : List Item := adv 5 [true] K6_4
noncomputable def K6_60 : List Item := adv 10 [true] K6_3
set_option maxRecDepth 20000 in
set_option maxHeartbeats 20000000 in
theorem lawapart_any (d : Db) (w : World) (hd : dbQ w d) : Ret Try.prog 6 #[.agg #[.slice d.gFrames_a d.gFrames_n d.gFrames_c]] w (fun v w' => v = .bool true ∧ Sep w [] w') := by
  have S0 := Sep.refl w
  refine Ret.named fun R hR => ?_
  refine Ret.of_J (N := 121) [(0, .agg #[.slice d.gFrames_a d.gFrames_n d.gFrames_c])] Try.func6 rfl rfl (Nat.le_of_ble_eq_true (by kernel_rfl)) (by kernel_rfl) ?_
  obtain ⟨q1, q2, q3, _⟩ := id hd
  have ql1 := q2.len_eq
  refine J.run 2 K6_0 [(0, .agg #[.slice d.gFrames_a d.gFrames_n d.gFrames_c])] w (by kernel_rfl) ?_
  refine J.new S0 1 [.slice d.gFrames_a d.gFrames_n d.gFrames_c] 33 (by kernel_rfl) ?_
  intro b1 w1 S1
  refine J.run 5 K6_1 [(1, .pointer (some ⟨b1, 0, none⟩))] w1 (by kernel_rfl) ?_
  refine J.callF 15 7 #[] hb7 (by kernel_rfl) (awake_any  _) ?_
  rintro _ w2 ⟨rfl, T1⟩
  have S2 : Sep w [box b1 [.slice d.gFrames_a d.gFrames_n d.gFrames_c] 33] w2 := S1.trans T1
  clear T1 S1
  refine J.run 7 K6_2 [(1, .pointer (some ⟨b1, 0, none⟩))] w2 (by kernel_rfl) ?_
  refine J.ok (OK.ldBox S2 0 17 33 0 (.agg #[.slice d.gFrames_a d.gFrames_n d.gFrames_c]) (by kernel_rfl) rfl (by kernel_rfl)) ?_
  refine J.callF 18 13 #[.agg #[.slice d.gFrames_a d.gFrames_n d.gFrames_c]] hb13 (by kernel_rfl) (few_any d _ (dbQ_sep hd S2)) ?_
  rintro _ w3 ⟨rfl, T2⟩
  have S3 : Sep w [box b1 [.slice d.gFrames_a d.gFrames_n d.gFrames_c] 33] w3 := S2.trans T2
  clear T2 S2
  refine J.run 2 K6_3 [(20, .bool (!(fewB d))), (1, .pointer (some ⟨b1, 0, none⟩))] w3 (by kernel_rfl) ?_
  rcases Bool.eq_false_or_eq_true (fewB d) with fk1 | fk1
  · skip
    refine J.head (.bool false) (congrArg Value.bool (by rw [fk1]; rfl)) ?_
    refine J.ok (OK.ldBox S3 0 21 33 0 (.agg #[.slice d.gFrames_a d.gFrames_n d.gFrames_c]) (by kernel_rfl) rfl (by kernel_rfl)) ?_
    refine J.callF 22 16 #[.agg #[.slice d.gFrames_a d.gFrames_n d.gFrames_c]] hb16 (by kernel_rfl) (validdb_any d _ (dbQ_sep hd S3)) ?_
    rintro _ w4 ⟨rfl, T3⟩
    have S4 : Sep w [box b1 [.slice d.gFrames_a d.gFrames_n d.gFrames_c] 33] w4 := S3.trans T3
    clear T3 S3
    refine J.run 3 K6_4 [(24, .bool (!(((faultF d).2) == 0))), (1, .pointer (some ⟨b1, 0, none⟩))] w4 (by kernel_rfl) ?_
    by_cases fk2 : ((faultF d).2) = 0
    · skip
      refine J.head (.bool false) (congrArg Value.bool (by simp [fk2])) ?_
      have hall := fault_zero fk2
      refine J.run 6 K6_5 [(25, .pointer (some ⟨b1, 0, none⟩)), (1, .pointer (some ⟨b1, 0, none⟩))] w4 (by kernel_rfl) ?_
      refine J.ok (OK.ldBox S4 0 26 31 0 (.slice d.gFrames_a d.gFrames_n d.gFrames_c) (by kernel_rfl) rfl (by kernel_rfl)) ?_
      refine J.run 5 K6_6 [(28, .int .i64 0), (27, .int .i64 (d.gFrames_n : Int)), (26, .slice d.gFrames_a d.gFrames_n d.gFrames_c), (1, .pointer (some ⟨b1, 0, none⟩))] w4 (by kernel_rfl) ?_
      have L6_1 : ∀ (mm_ : Nat) (i : Int) (w5 : World), (0 ≤ i) → (i ≤ (d.gFrames_n : Int)) → Sep w [box b1 [.slice d.gFrames_a d.gFrames_n d.gFrames_c] 33] w5 → ((d.gFrames_n : Int) - i).toNat = mm_ → J Try.prog 6 121 R K6_6 [(28, .int .i64 i), (27, .int .i64 (d.gFrames_n : Int)), (26, .slice d.gFrames_a d.gFrames_n d.gFrames_c), (1, .pointer (some ⟨b1, 0, none⟩))] w5 := by
        intro mm1
        induction mm1 using Nat.strongRecOn with
        | _ mm1 ih1 =>
        intro i w5 h0 h1 S5 hm1
        refine J.run 5 K6_7 [(29, .bool (decide (i < (d.gFrames_n : Int)))), (28, .int .i64 i), (27, .int .i64 (d.gFrames_n : Int)), (26, .slice d.gFrames_a d.gFrames_n d.gFrames_c), (1, .pointer (some ⟨b1, 0, none⟩))] w5 (by kernel_rfl) ?_
        by_cases fk3 : i < (d.gFrames_n : Int)
        · skip
          refine J.head (.bool true) (congrArg Value.bool (decide_eq_true fk3)) ?_
          obtain ⟨hh0, hh3⟩ := hall i.toNat (by omega)
          obtain ⟨hh1, hh2⟩ := head_zero hh0
          refine J.run 7 K6_8 [(30, .int .i64 i), (28, .int .i64 i), (27, .int .i64 (d.gFrames_n : Int)), (26, .slice d.gFrames_a d.gFrames_n d.gFrames_c), (1, .pointer (some ⟨b1, 0, none⟩))] w5 (by kernel_rfl) ?_
          obtain ⟨p1, hp1, hc1⟩ := q2.at frm0 (i).toNat (by omega)
          have hq1 := getD_Q q3 frm0 (n := (i).toNat) (by have := q2.len_eq; omega)
          obtain ⟨q4, q5, q6, q7, q8, q9, _⟩ := id hq1
          have ql2 := q8.len_eq
          refine J.ok (OK.index 31 31 5 d.gFrames_a p1 d.gFrames_n (i).toNat i (p1.add ((i).toNat * 5)) (by kernel_rfl) (by kernel_rfl) hp1 (by omega) (by omega) rfl) ?_
          refine J.ok (OK.ldCells 32 42 (p1.add ((i).toNat * 5)) [.string ((d.gFrames_l.getD (i).toNat frm0).gName), .int .i64 ((d.gFrames_l.getD (i).toNat frm0).gID), .int .i64 ((d.gFrames_l.getD (i).toNat frm0).gLength), .bool ((d.gFrames_l.getD (i).toNat frm0).gGuarded), .slice ((d.gFrames_l.getD (i).toNat frm0).gSignals_a) ((d.gFrames_l.getD (i).toNat frm0).gSignals_n) ((d.gFrames_l.getD (i).toNat frm0).gSignals_c)] (by kernel_rfl) (by kernel_rfl) (by kernel_rfl) (fun j_ v_ hj_ => S5.cell (hc1 j_ v_ hj_))) ?_
          refine J.new S5 4 [.string ByteArray.empty, .int .i64 0, .int .i64 0, .bool false, .slice none 0 0] 42 (by kernel_rfl) ?_
          intro b2 w6 S6
          refine J.run 1 K6_9 [(3, .int .i64 i), (4, .pointer (some ⟨b2, 0, none⟩)), (32, .agg #[.string ((d.gFrames_l.getD (i).toNat frm0).gName), .int .i64 ((d.gFrames_l.getD (i).toNat frm0).gID), .int .i64 ((d.gFrames_l.getD (i).toNat frm0).gLength), .bool ((d.gFrames_l.getD (i).toNat frm0).gGuarded), .slice ((d.gFrames_l.getD (i).toNat frm0).gSignals_a) ((d.gFrames_l.getD (i).toNat frm0).gSignals_n) ((d.gFrames_l.getD (i).toNat frm0).gSignals_c)]), (28, .int .i64 i), (27, .int .i64 (d.gFrames_n : Int)), (26, .slice d.gFrames_a d.gFrames_n d.gFrames_c), (1, .pointer (some ⟨b1, 0, none⟩))] w6 (by kernel_rfl) ?_
          refine J.stBox S6 0 42 0 (.agg #[.string ((d.gFrames_l.getD (i).toNat frm0).gName), .int .i64 ((d.gFrames_l.getD (i).toNat frm0).gID), .int .i64 ((d.gFrames_l.getD (i).toNat frm0).gLength), .bool ((d.gFrames_l.getD (i).toNat frm0).gGuarded), .slice ((d.gFrames_l.getD (i).toNat frm0).gSignals_a) ((d.gFrames_l.getD (i).toNat frm0).gSignals_n) ((d.gFrames_l.getD (i).toNat frm0).gSignals_c)]) [.string ((d.gFrames_l.getD (i).toNat frm0).gName), .int .i64 ((d.gFrames_l.getD (i).toNat frm0).gID), .int .i64 ((d.gFrames_l.getD (i).toNat frm0).gLength), .bool ((d.gFrames_l.getD (i).toNat frm0).gGuarded), .slice ((d.gFrames_l.getD (i).toNat frm0).gSignals_a) ((d.gFrames_l.getD (i).toNat frm0).gSignals_n) ((d.gFrames_l.getD (i).toNat frm0).gSignals_c)] [box b2 [.string ((d.gFrames_l.getD (i).toNat frm0).gName), .int .i64 ((d.gFrames_l.getD (i).toNat frm0).gID), .int .i64 ((d.gFrames_l.getD (i).toNat frm0).gLength), .bool ((d.gFrames_l.getD (i).toNat frm0).gGuarded), .slice ((d.gFrames_l.getD (i).toNat frm0).gSignals_a) ((d.gFrames_l.getD (i).toNat frm0).gSignals_n) ((d.gFrames_l.getD (i).toNat frm0).gSignals_c)] 42, box b1 [.slice d.gFrames_a d.gFrames_n d.gFrames_c] 33] (by kernel_rfl) rfl (by kernel_rfl) (by kernel_rfl) rfl ?_
          intro w7 S7
          refine J.run 3 K6_10 [(3, .int .i64 i), (4, .pointer (some ⟨b2, 0, none⟩)), (28, .int .i64 i), (27, .int .i64 (d.gFrames_n : Int)), (26, .slice d.gFrames_a d.gFrames_n d.gFrames_c), (1, .pointer (some ⟨b1, 0, none⟩))] w7 (by kernel_rfl) ?_
          refine J.new S7 5 [.bool false, .bool false, .bool false, .bool false, .bool false, .bool false, .bool false, .bool false, .bool false, .bool false, .bool false, .bool false, .bool false, .bool false, .bool false, .bool false, .bool false, .bool false, .bool false, .bool false, .bool false, .bool false, .bool false, .bool false, .bool false, .bool false, .bool false, .bool false, .bool false, .bool false, .bool false, .bool false, .bool false, .bool false, .bool false, .bool false, .bool false, .bool false, .bool false, .bool false, .bool false, .bool false, .bool false, .bool false, .bool false, .bool false, .bool false, .bool false, .bool false, .bool false, .bool false, .bool false, .bool false, .bool false, .bool false, .bool false, .bool false, .bool false, .bool false, .bool false, .bool false, .bool false, .bool false, .bool false] 43 (by kernel_rfl) ?_
          intro b3 w8 S8
          replace S8 : Sep w [box b3 ((List.replicate 64 false).map Value.bool) 43, box b2 [.string ((d.gFrames_l.getD (i).toNat frm0).gName), .int .i64 ((d.gFrames_l.getD (i).toNat frm0).gID), .int .i64 ((d.gFrames_l.getD (i).toNat frm0).gLength), .bool ((d.gFrames_l.getD (i).toNat frm0).gGuarded), .slice ((d.gFrames_l.getD (i).toNat frm0).gSignals_a) ((d.gFrames_l.getD (i).toNat frm0).gSignals_n) ((d.gFrames_l.getD (i).toNat frm0).gSignals_c)] 42, box b1 [.slice d.gFrames_a d.gFrames_n d.gFrames_c] 33] w8 := S8
          refine J.run 5 K6_11 [(33, .pointer (some ⟨b2, 4, none⟩)), (5, .pointer (some ⟨b3, 0, none⟩)), (3, .int .i64 i), (4, .pointer (some ⟨b2, 0, none⟩)), (28, .int .i64 i), (27, .int .i64 (d.gFrames_n : Int)), (26, .slice d.gFrames_a d.gFrames_n d.gFrames_c), (1, .pointer (some ⟨b1, 0, none⟩))] w8 (by kernel_rfl) ?_
          refine J.ok (OK.ldBox S8 1 34 40 4 (.slice ((d.gFrames_l.getD (i).toNat frm0).gSignals_a) ((d.gFrames_l.getD (i).toNat frm0).gSignals_n) ((d.gFrames_l.getD (i).toNat frm0).gSignals_c)) (by kernel_rfl) rfl (by kernel_rfl)) ?_
          refine J.run 5 K6_12 [(36, .int .i64 0), (35, .int .i64 ((d.gFrames_l.getD (i).toNat frm0).gSignals_n : Int)), (34, .slice ((d.gFrames_l.getD (i).toNat frm0).gSignals_a) ((d.gFrames_l.getD (i).toNat frm0).gSignals_n) ((d.gFrames_l.getD (i).toNat frm0).gSignals_c)), (5, .pointer (some ⟨b3, 0, none⟩)), (3, .int .i64 i), (4, .pointer (some ⟨b2, 0, none⟩)), (28, .int .i64 i), (27, .int .i64 (d.gFrames_n : Int)), (26, .slice d.gFrames_a d.gFrames_n d.gFrames_c), (1, .pointer (some ⟨b1, 0, none⟩))] w8 (by kernel_rfl) ?_
          have L6_2 : ∀ (mm_ : Nat) (tl : List Bool) (j : Int) (w9 : World), (0 ≤ j) → (j ≤ ((d.gFrames_l.getD (i).toNat frm0).gSignals_n : Int)) → ((tl).length = 64) → (∀ n, n < 64 → (tl).getD n false = takenB (d.gFrames_l.getD (i).toNat frm0) (j).toNat n) → Sep w [box b3 (tl.map Value.bool) 43, box b2 [.string ((d.gFrames_l.getD (i).toNat frm0).gName), .int .i64 ((d.gFrames_l.getD (i).toNat frm0).gID), .int .i64 ((d.gFrames_l.getD (i).toNat frm0).gLength), .bool ((d.gFrames_l.getD (i).toNat frm0).gGuarded), .slice ((d.gFrames_l.getD (i).toNat frm0).gSignals_a) ((d.gFrames_l.getD (i).toNat frm0).gSignals_n) ((d.gFrames_l.getD (i).toNat frm0).gSignals_c)] 42, box b1 [.slice d.gFrames_a d.gFrames_n d.gFrames_c] 33] w9 → (((d.gFrames_l.getD (i).toNat frm0).gSignals_n : Int) - j).toNat = mm_ → J Try.prog 6 121 R K6_12 [(36, .int .i64 j), (35, .int .i64 ((d.gFrames_l.getD (i).toNat frm0).gSignals_n : Int)), (34, .slice ((d.gFrames_l.getD (i).toNat frm0).gSignals_a) ((d.gFrames_l.getD (i).toNat frm0).gSignals_n) ((d.gFrames_l.getD (i).toNat frm0).gSignals_c)), (5, .pointer (some ⟨b3, 0, none⟩)), (3, .int .i64 i), (4, .pointer (some ⟨b2, 0, none⟩)), (28, .int .i64 i), (27, .int .i64 (d.gFrames_n : Int)), (26, .slice d.gFrames_a d.gFrames_n d.gFrames_c), (1, .pointer (some ⟨b1, 0, none⟩))] w9 := by
            intro mm2
            induction mm2 using Nat.strongRecOn with
            | _ mm2 ih2 =>
            intro tl j w9 j0 j1 h64 ht S9 hm2
            refine J.run 5 K6_13 [(37, .bool (decide (j < ((d.gFrames_l.getD (i).toNat frm0).gSignals_n : Int)))), (36, .int .i64 j), (35, .int .i64 ((d.gFrames_l.getD (i).toNat frm0).gSignals_n : Int)), (34, .slice ((d.gFrames_l.getD (i).toNat frm0).gSignals_a) ((d.gFrames_l.getD (i).toNat frm0).gSignals_n) ((d.gFrames_l.getD (i).toNat frm0).gSignals_c)), (5, .pointer (some ⟨b3, 0, none⟩)), (3, .int .i64 i), (4, .pointer (some ⟨b2, 0, none⟩)), (28, .int .i64 i), (27, .int .i64 (d.gFrames_n : Int)), (26, .slice d.gFrames_a d.gFrames_n d.gFrames_c), (1, .pointer (some ⟨b1, 0, none⟩))] w9 (by kernel_rfl) ?_
            by_cases fk4 : j < ((d.gFrames_l.getD (i).toNat frm0).gSignals_n : Int)
            · skip
              refine J.head (.bool true) (congrArg Value.bool (decide_eq_true fk4)) ?_
              refine J.run 6 K6_14 [(36, .int .i64 j), (35, .int .i64 ((d.gFrames_l.getD (i).toNat frm0).gSignals_n : Int)), (34, .slice ((d.gFrames_l.getD (i).toNat frm0).gSignals_a) ((d.gFrames_l.getD (i).toNat frm0).gSignals_n) ((d.gFrames_l.getD (i).toNat frm0).gSignals_c)), (5, .pointer (some ⟨b3, 0, none⟩)), (3, .int .i64 i), (4, .pointer (some ⟨b2, 0, none⟩)), (28, .int .i64 i), (27, .int .i64 (d.gFrames_n : Int)), (26, .slice d.gFrames_a d.gFrames_n d.gFrames_c), (1, .pointer (some ⟨b1, 0, none⟩))] w9 (by kernel_rfl) ?_
              obtain ⟨p2, hp2, hc2⟩ := q8.at sig0 (j).toNat (by omega)
              have hq2 := getD_Q q9 sig0 (n := (j).toNat) (by have := q8.len_eq; omega)
              obtain ⟨q10, q11, q12, q13, q14, q15, q16, q17, _⟩ := id hq2
              refine J.ok (OK.index 38 40 10 ((d.gFrames_l.getD (i).toNat frm0).gSignals_a) p2 ((d.gFrames_l.getD (i).toNat frm0).gSignals_n) (j).toNat j (p2.add ((j).toNat * 10)) (by kernel_rfl) (by kernel_rfl) hp2 (by omega) (by omega) rfl) ?_
              refine J.ok (OK.ldCells 39 23 (p2.add ((j).toNat * 10)) [.string ((((d.gFrames_l.getD (i).toNat frm0).gSignals_l).getD (j).toNat sig0).gName), .int .i64 ((((d.gFrames_l.getD (i).toNat frm0).gSignals_l).getD (j).toNat sig0).gStart), .int .i64 ((((d.gFrames_l.getD (i).toNat frm0).gSignals_l).getD (j).toNat sig0).gLength), .bool ((((d.gFrames_l.getD (i).toNat frm0).gSignals_l).getD (j).toNat sig0).gMotorola), .bool ((((d.gFrames_l.getD (i).toNat frm0).gSignals_l).getD (j).toNat sig0).gSigned), .int .i64 ((((d.gFrames_l.getD (i).toNat frm0).gSignals_l).getD (j).toNat sig0).gNum), .int .i64 ((((d.gFrames_l.getD (i).toNat frm0).gSignals_l).getD (j).toNat sig0).gOff), .int .i64 ((((d.gFrames_l.getD (i).toNat frm0).gSignals_l).getD (j).toNat sig0).gDen), .int .i64 ((((d.gFrames_l.getD (i).toNat frm0).gSignals_l).getD (j).toNat sig0).gLow), .int .i64 ((((d.gFrames_l.getD (i).toNat frm0).gSignals_l).getD (j).toNat sig0).gHigh)] (by kernel_rfl) (by kernel_rfl) (by kernel_rfl) (fun j_ v_ hj_ => S9.cell (hc2 j_ v_ hj_))) ?_
              refine J.new S9 7 [.string ByteArray.empty, .int .i64 0, .int .i64 0, .bool false, .bool false, .int .i64 0, .int .i64 0, .int .i64 0, .int .i64 0, .int .i64 0] 23 (by kernel_rfl) ?_
              intro b4 w10 S10
              refine J.stBox S10 0 23 0 (.agg #[.string ((((d.gFrames_l.getD (i).toNat frm0).gSignals_l).getD (j).toNat sig0).gName), .int .i64 ((((d.gFrames_l.getD (i).toNat frm0).gSignals_l).getD (j).toNat sig0).gStart), .int .i64 ((((d.gFrames_l.getD (i).toNat frm0).gSignals_l).getD (j).toNat sig0).gLength), .bool ((((d.gFrames_l.getD (i).toNat frm0).gSignals_l).getD (j).toNat sig0).gMotorola), .bool ((((d.gFrames_l.getD (i).toNat frm0).gSignals_l).getD (j).toNat sig0).gSigned), .int .i64 ((((d.gFrames_l.getD (i).toNat frm0).gSignals_l).getD (j).toNat sig0).gNum), .int .i64 ((((d.gFrames_l.getD (i).toNat frm0).gSignals_l).getD (j).toNat sig0).gOff), .int .i64 ((((d.gFrames_l.getD (i).toNat frm0).gSignals_l).getD (j).toNat sig0).gDen), .int .i64 ((((d.gFrames_l.getD (i).toNat frm0).gSignals_l).getD (j).toNat sig0).gLow), .int .i64 ((((d.gFrames_l.getD (i).toNat frm0).gSignals_l).getD (j).toNat sig0).gHigh)]) [.string ((((d.gFrames_l.getD (i).toNat frm0).gSignals_l).getD (j).toNat sig0).gName), .int .i64 ((((d.gFrames_l.getD (i).toNat frm0).gSignals_l).getD (j).toNat sig0).gStart), .int .i64 ((((d.gFrames_l.getD (i).toNat frm0).gSignals_l).getD (j).toNat sig0).gLength), .bool ((((d.gFrames_l.getD (i).toNat frm0).gSignals_l).getD (j).toNat sig0).gMotorola), .bool ((((d.gFrames_l.getD (i).toNat frm0).gSignals_l).getD (j).toNat sig0).gSigned), .int .i64 ((((d.gFrames_l.getD (i).toNat frm0).gSignals_l).getD (j).toNat sig0).gNum), .int .i64 ((((d.gFrames_l.getD (i).toNat frm0).gSignals_l).getD (j).toNat sig0).gOff), .int .i64 ((((d.gFrames_l.getD (i).toNat frm0).gSignals_l).getD (j).toNat sig0).gDen), .int .i64 ((((d.gFrames_l.getD (i).toNat frm0).gSignals_l).getD (j).toNat sig0).gLow), .int .i64 ((((d.gFrames_l.getD (i).toNat frm0).gSignals_l).getD (j).toNat sig0).gHigh)] [box b4 [.string ((((d.gFrames_l.getD (i).toNat frm0).gSignals_l).getD (j).toNat sig0).gName), .int .i64 ((((d.gFrames_l.getD (i).toNat frm0).gSignals_l).getD (j).toNat sig0).gStart), .int .i64 ((((d.gFrames_l.getD (i).toNat frm0).gSignals_l).getD (j).toNat sig0).gLength), .bool ((((d.gFrames_l.getD (i).toNat frm0).gSignals_l).getD (j).toNat sig0).gMotorola), .bool ((((d.gFrames_l.getD (i).toNat frm0).gSignals_l).getD (j).toNat sig0).gSigned), .int .i64 ((((d.gFrames_l.getD (i).toNat frm0).gSignals_l).getD (j).toNat sig0).gNum), .int .i64 ((((d.gFrames_l.getD (i).toNat frm0).gSignals_l).getD (j).toNat sig0).gOff), .int .i64 ((((d.gFrames_l.getD (i).toNat frm0).gSignals_l).getD (j).toNat sig0).gDen), .int .i64 ((((d.gFrames_l.getD (i).toNat frm0).gSignals_l).getD (j).toNat sig0).gLow), .int .i64 ((((d.gFrames_l.getD (i).toNat frm0).gSignals_l).getD (j).toNat sig0).gHigh)] 23, box b3 (tl.map Value.bool) 43, box b2 [.string ((d.gFrames_l.getD (i).toNat frm0).gName), .int .i64 ((d.gFrames_l.getD (i).toNat frm0).gID), .int .i64 ((d.gFrames_l.getD (i).toNat frm0).gLength), .bool ((d.gFrames_l.getD (i).toNat frm0).gGuarded), .slice ((d.gFrames_l.getD (i).toNat frm0).gSignals_a) ((d.gFrames_l.getD (i).toNat frm0).gSignals_n) ((d.gFrames_l.getD (i).toNat frm0).gSignals_c)] 42, box b1 [.slice d.gFrames_a d.gFrames_n d.gFrames_c] 33] (by kernel_rfl) rfl (by kernel_rfl) (by kernel_rfl) rfl ?_
              intro w11 S11
              refine J.run 3 K6_15 [(7, .pointer (some ⟨b4, 0, none⟩)), (36, .int .i64 j), (35, .int .i64 ((d.gFrames_l.getD (i).toNat frm0).gSignals_n : Int)), (34, .slice ((d.gFrames_l.getD (i).toNat frm0).gSignals_a) ((d.gFrames_l.getD (i).toNat frm0).gSignals_n) ((d.gFrames_l.getD (i).toNat frm0).gSignals_c)), (5, .pointer (some ⟨b3, 0, none⟩)), (3, .int .i64 i), (4, .pointer (some ⟨b2, 0, none⟩)), (28, .int .i64 i), (27, .int .i64 (d.gFrames_n : Int)), (26, .slice d.gFrames_a d.gFrames_n d.gFrames_c), (1, .pointer (some ⟨b1, 0, none⟩))] w11 (by kernel_rfl) ?_
              refine J.ok (OK.ldBox S11 0 40 23 0 (.agg #[.string ((((d.gFrames_l.getD (i).toNat frm0).gSignals_l).getD (j).toNat sig0).gName), .int .i64 ((((d.gFrames_l.getD (i).toNat frm0).gSignals_l).getD (j).toNat sig0).gStart), .int .i64 ((((d.gFrames_l.getD (i).toNat frm0).gSignals_l).getD (j).toNat sig0).gLength), .bool ((((d.gFrames_l.getD (i).toNat frm0).gSignals_l).getD (j).toNat sig0).gMotorola), .bool ((((d.gFrames_l.getD (i).toNat frm0).gSignals_l).getD (j).toNat sig0).gSigned), .int .i64 ((((d.gFrames_l.getD (i).toNat frm0).gSignals_l).getD (j).toNat sig0).gNum), .int .i64 ((((d.gFrames_l.getD (i).toNat frm0).gSignals_l).getD (j).toNat sig0).gOff), .int .i64 ((((d.gFrames_l.getD (i).toNat frm0).gSignals_l).getD (j).toNat sig0).gDen), .int .i64 ((((d.gFrames_l.getD (i).toNat frm0).gSignals_l).getD (j).toNat sig0).gLow), .int .i64 ((((d.gFrames_l.getD (i).toNat frm0).gSignals_l).getD (j).toNat sig0).gHigh)]) (by kernel_rfl) rfl (by kernel_rfl)) ?_
              refine J.callF 41 11 #[.agg #[.string ((((d.gFrames_l.getD (i).toNat frm0).gSignals_l).getD (j).toNat sig0).gName), .int .i64 ((((d.gFrames_l.getD (i).toNat frm0).gSignals_l).getD (j).toNat sig0).gStart), .int .i64 ((((d.gFrames_l.getD (i).toNat frm0).gSignals_l).getD (j).toNat sig0).gLength), .bool ((((d.gFrames_l.getD (i).toNat frm0).gSignals_l).getD (j).toNat sig0).gMotorola), .bool ((((d.gFrames_l.getD (i).toNat frm0).gSignals_l).getD (j).toNat sig0).gSigned), .int .i64 ((((d.gFrames_l.getD (i).toNat frm0).gSignals_l).getD (j).toNat sig0).gNum), .int .i64 ((((d.gFrames_l.getD (i).toNat frm0).gSignals_l).getD (j).toNat sig0).gOff), .int .i64 ((((d.gFrames_l.getD (i).toNat frm0).gSignals_l).getD (j).toNat sig0).gDen), .int .i64 ((((d.gFrames_l.getD (i).toNat frm0).gSignals_l).getD (j).toNat sig0).gLow), .int .i64 ((((d.gFrames_l.getD (i).toNat frm0).gSignals_l).getD (j).toNat sig0).gHigh)]] hb11 (by kernel_rfl) (bits_rec (((d.gFrames_l.getD (i).toNat frm0).gSignals_l).getD (j).toNat sig0) _ (sigQ_sep hq2 S11)) ?_
              rintro _ w12 ⟨ra1, rc1, rfl, T4⟩
              have S12 : Sep w [rowOf encI ra1 rc1 3 1 (sbits (((d.gFrames_l.getD (i).toNat frm0).gSignals_l).getD (j).toNat sig0)), box b4 [.string ((((d.gFrames_l.getD (i).toNat frm0).gSignals_l).getD (j).toNat sig0).gName), .int .i64 ((((d.gFrames_l.getD (i).toNat frm0).gSignals_l).getD (j).toNat sig0).gStart), .int .i64 ((((d.gFrames_l.getD (i).toNat frm0).gSignals_l).getD (j).toNat sig0).gLength), .bool ((((d.gFrames_l.getD (i).toNat frm0).gSignals_l).getD (j).toNat sig0).gMotorola), .bool ((((d.gFrames_l.getD (i).toNat frm0).gSignals_l).getD (j).toNat sig0).gSigned), .int .i64 ((((d.gFrames_l.getD (i).toNat frm0).gSignals_l).getD (j).toNat sig0).gNum), .int .i64 ((((d.gFrames_l.getD (i).toNat frm0).gSignals_l).getD (j).toNat sig0).gOff), .int .i64 ((((d.gFrames_l.getD (i).toNat frm0).gSignals_l).getD (j).toNat sig0).gDen), .int .i64 ((((d.gFrames_l.getD (i).toNat frm0).gSignals_l).getD (j).toNat sig0).gLow), .int .i64 ((((d.gFrames_l.getD (i).toNat frm0).gSignals_l).getD (j).toNat sig0).gHigh)] 23, box b3 (tl.map Value.bool) 43, box b2 [.string ((d.gFrames_l.getD (i).toNat frm0).gName), .int .i64 ((d.gFrames_l.getD (i).toNat frm0).gID), .int .i64 ((d.gFrames_l.getD (i).toNat frm0).gLength), .bool ((d.gFrames_l.getD (i).toNat frm0).gGuarded), .slice ((d.gFrames_l.getD (i).toNat frm0).gSignals_a) ((d.gFrames_l.getD (i).toNat frm0).gSignals_n) ((d.gFrames_l.getD (i).toNat frm0).gSignals_c)] 42, box b1 [.slice d.gFrames_a d.gFrames_n d.gFrames_c] 33] w12 := S11.trans T4
              clear T4 S11
              have := sbits_len (((d.gFrames_l.getD (i).toNat frm0).gSignals_l).getD (j).toNat sig0)
              have hz := hh3 j.toNat (by omega)
              obtain ⟨hz1, hz2, hz3⟩ := sig_zero hz
              obtain ⟨hs1, hs2, _⟩ := sigB_facts hz1
              have hbl : (sbits ((d.gFrames_l.getD (i).toNat frm0).gSignals_l.getD (j).toNat sig0)).length = ((d.gFrames_l.getD (i).toNat frm0).gSignals_l.getD (j).toNat sig0).gLength.toNat := bits_len hz1
              refine J.run 8 K6_16 [(44, .pointer (some ⟨b4, 2, none⟩)), (43, .int .i64 ((sbits (((d.gFrames_l.getD (i).toNat frm0).gSignals_l).getD (j).toNat sig0)).length : Int)), (8, .slice ra1 ((sbits (((d.gFrames_l.getD (i).toNat frm0).gSignals_l).getD (j).toNat sig0)).length) rc1), (36, .int .i64 j), (35, .int .i64 ((d.gFrames_l.getD (i).toNat frm0).gSignals_n : Int)), (34, .slice ((d.gFrames_l.getD (i).toNat frm0).gSignals_a) ((d.gFrames_l.getD (i).toNat frm0).gSignals_n) ((d.gFrames_l.getD (i).toNat frm0).gSignals_c)), (5, .pointer (some ⟨b3, 0, none⟩)), (3, .int .i64 i), (4, .pointer (some ⟨b2, 0, none⟩)), (28, .int .i64 i), (27, .int .i64 (d.gFrames_n : Int)), (26, .slice d.gFrames_a d.gFrames_n d.gFrames_c), (1, .pointer (some ⟨b1, 0, none⟩))] w12 (by kernel_rfl) ?_
              refine J.ok (OK.ldBox S12 1 45 3 2 (.int .i64 ((((d.gFrames_l.getD (i).toNat frm0).gSignals_l).getD (j).toNat sig0).gLength)) (by kernel_rfl) rfl (by kernel_rfl)) ?_
              refine J.run 2 K6_17 [(46, .bool (((sbits (((d.gFrames_l.getD (i).toNat frm0).gSignals_l).getD (j).toNat sig0)).length : Int) != ((((d.gFrames_l.getD (i).toNat frm0).gSignals_l).getD (j).toNat sig0).gLength))), (8, .slice ra1 ((sbits (((d.gFrames_l.getD (i).toNat frm0).gSignals_l).getD (j).toNat sig0)).length) rc1), (36, .int .i64 j), (35, .int .i64 ((d.gFrames_l.getD (i).toNat frm0).gSignals_n : Int)), (34, .slice ((d.gFrames_l.getD (i).toNat frm0).gSignals_a) ((d.gFrames_l.getD (i).toNat frm0).gSignals_n) ((d.gFrames_l.getD (i).toNat frm0).gSignals_c)), (5, .pointer (some ⟨b3, 0, none⟩)), (3, .int .i64 i), (4, .pointer (some ⟨b2, 0, none⟩)), (28, .int .i64 i), (27, .int .i64 (d.gFrames_n : Int)), (26, .slice d.gFrames_a d.gFrames_n d.gFrames_c), (1, .pointer (some ⟨b1, 0, none⟩))] w12 (by kernel_rfl) ?_
              by_cases fk5 : ((sbits (((d.gFrames_l.getD (i).toNat frm0).gSignals_l).getD (j).toNat sig0)).length : Int) = ((((d.gFrames_l.getD (i).toNat frm0).gSignals_l).getD (j).toNat sig0).gLength)
              · skip
                refine J.head (.bool false) (congrArg Value.bool (bne_eq_false_iff_eq.2 fk5)) ?_
                refine J.run 10 K6_18 [(49, .int .i64 0), (48, .int .i64 ((sbits (((d.gFrames_l.getD (i).toNat frm0).gSignals_l).getD (j).toNat sig0)).length : Int)), (47, .slice ra1 ((sbits (((d.gFrames_l.getD (i).toNat frm0).gSignals_l).getD (j).toNat sig0)).length) rc1), (36, .int .i64 j), (35, .int .i64 ((d.gFrames_l.getD (i).toNat frm0).gSignals_n : Int)), (34, .slice ((d.gFrames_l.getD (i).toNat frm0).gSignals_a) ((d.gFrames_l.getD (i).toNat frm0).gSignals_n) ((d.gFrames_l.getD (i).toNat frm0).gSignals_c)), (5, .pointer (some ⟨b3, 0, none⟩)), (3, .int .i64 i), (4, .pointer (some ⟨b2, 0, none⟩)), (28, .int .i64 i), (27, .int .i64 (d.gFrames_n : Int)), (26, .slice d.gFrames_a d.gFrames_n d.gFrames_c), (1, .pointer (some ⟨b1, 0, none⟩))] w12 (by kernel_rfl) ?_
                have L6_3 : ∀ (mm_ : Nat) (tl : List Bool) (m : Int) (w13 : World), (0 ≤ m) → (m ≤ ((sbits ((d.gFrames_l.getD (i).toNat frm0).gSignals_l.getD (j).toNat sig0)).length : Int)) → ((tl).length = 64) → (∀ n, n < 64 → (tl).getD n false = (takenB (d.gFrames_l.getD (i).toNat frm0) (j).toNat n || ((sbits ((d.gFrames_l.getD (i).toNat frm0).gSignals_l.getD (j).toNat sig0)).take (m).toNat).any fun b => b.toNat == n)) → Sep w [rowOf encI ra1 rc1 3 1 (sbits (((d.gFrames_l.getD (i).toNat frm0).gSignals_l).getD (j).toNat sig0)), box b4 [.string ((((d.gFrames_l.getD (i).toNat frm0).gSignals_l).getD (j).toNat sig0).gName), .int .i64 ((((d.gFrames_l.getD (i).toNat frm0).gSignals_l).getD (j).toNat sig0).gStart), .int .i64 ((((d.gFrames_l.getD (i).toNat frm0).gSignals_l).getD (j).toNat sig0).gLength), .bool ((((d.gFrames_l.getD (i).toNat frm0).gSignals_l).getD (j).toNat sig0).gMotorola), .bool ((((d.gFrames_l.getD (i).toNat frm0).gSignals_l).getD (j).toNat sig0).gSigned), .int .i64 ((((d.gFrames_l.getD (i).toNat frm0).gSignals_l).getD (j).toNat sig0).gNum), .int .i64 ((((d.gFrames_l.getD (i).toNat frm0).gSignals_l).getD (j).toNat sig0).gOff), .int .i64 ((((d.gFrames_l.getD (i).toNat frm0).gSignals_l).getD (j).toNat sig0).gDen), .int .i64 ((((d.gFrames_l.getD (i).toNat frm0).gSignals_l).getD (j).toNat sig0).gLow), .int .i64 ((((d.gFrames_l.getD (i).toNat frm0).gSignals_l).getD (j).toNat sig0).gHigh)] 23, box b3 (tl.map Value.bool) 43, box b2 [.string ((d.gFrames_l.getD (i).toNat frm0).gName), .int .i64 ((d.gFrames_l.getD (i).toNat frm0).gID), .int .i64 ((d.gFrames_l.getD (i).toNat frm0).gLength), .bool ((d.gFrames_l.getD (i).toNat frm0).gGuarded), .slice ((d.gFrames_l.getD (i).toNat frm0).gSignals_a) ((d.gFrames_l.getD (i).toNat frm0).gSignals_n) ((d.gFrames_l.getD (i).toNat frm0).gSignals_c)] 42, box b1 [.slice d.gFrames_a d.gFrames_n d.gFrames_c] 33] w13 → (((sbits ((d.gFrames_l.getD (i).toNat frm0).gSignals_l.getD (j).toNat sig0)).length : Int) - m).toNat = mm_ → J Try.prog 6 121 R K6_18 [(49, .int .i64 m), (48, .int .i64 ((sbits (((d.gFrames_l.getD (i).toNat frm0).gSignals_l).getD (j).toNat sig0)).length : Int)), (47, .slice ra1 ((sbits (((d.gFrames_l.getD (i).toNat frm0).gSignals_l).getD (j).toNat sig0)).length) rc1), (36, .int .i64 j), (35, .int .i64 ((d.gFrames_l.getD (i).toNat frm0).gSignals_n : Int)), (34, .slice ((d.gFrames_l.getD (i).toNat frm0).gSignals_a) ((d.gFrames_l.getD (i).toNat frm0).gSignals_n) ((d.gFrames_l.getD (i).toNat frm0).gSignals_c)), (5, .pointer (some ⟨b3, 0, none⟩)), (3, .int .i64 i), (4, .pointer (some ⟨b2, 0, none⟩)), (28, .int .i64 i), (27, .int .i64 (d.gFrames_n : Int)), (26, .slice d.gFrames_a d.gFrames_n d.gFrames_c), (1, .pointer (some ⟨b1, 0, none⟩))] w13 := by
                  intro mm3
                  induction mm3 using Nat.strongRecOn with
                  | _ mm3 ih3 =>
                  intro tl m w13 m0 m1 h64m htm S13 hm3
                  refine J.run 5 K6_19 [(50, .bool (decide (m < ((sbits (((d.gFrames_l.getD (i).toNat frm0).gSignals_l).getD (j).toNat sig0)).length : Int)))), (49, .int .i64 m), (48, .int .i64 ((sbits (((d.gFrames_l.getD (i).toNat frm0).gSignals_l).getD (j).toNat sig0)).length : Int)), (47, .slice ra1 ((sbits (((d.gFrames_l.getD (i).toNat frm0).gSignals_l).getD (j).toNat sig0)).length) rc1), (36, .int .i64 j), (35, .int .i64 ((d.gFrames_l.getD (i).toNat frm0).gSignals_n : Int)), (34, .slice ((d.gFrames_l.getD (i).toNat frm0).gSignals_a) ((d.gFrames_l.getD (i).toNat frm0).gSignals_n) ((d.gFrames_l.getD (i).toNat frm0).gSignals_c)), (5, .pointer (some ⟨b3, 0, none⟩)), (3, .int .i64 i), (4, .pointer (some ⟨b2, 0, none⟩)), (28, .int .i64 i), (27, .int .i64 (d.gFrames_n : Int)), (26, .slice d.gFrames_a d.gFrames_n d.gFrames_c), (1, .pointer (some ⟨b1, 0, none⟩))] w13 (by kernel_rfl) ?_
                  by_cases fk6 : m < ((sbits (((d.gFrames_l.getD (i).toNat frm0).gSignals_l).getD (j).toNat sig0)).length : Int)
                  · skip
                    refine J.head (.bool true) (congrArg Value.bool (decide_eq_true fk6)) ?_
                    have hbb := sbits_pos (s := (d.gFrames_l.getD (i).toNat frm0).gSignals_l.getD (j).toNat sig0) _ (getD_mem (n := m.toNat) 0 (by omega))
                    have hbo := hz2 _ (getD_mem (n := m.toNat) 0 (by omega))
                    simp only [outB, Bool.or_eq_false_iff, decide_eq_false_iff_not] at hbo
                    have hbo1 := hbo.1
                    refine J.run 6 K6_20 [(49, .int .i64 m), (48, .int .i64 ((sbits (((d.gFrames_l.getD (i).toNat frm0).gSignals_l).getD (j).toNat sig0)).length : Int)), (47, .slice ra1 ((sbits (((d.gFrames_l.getD (i).toNat frm0).gSignals_l).getD (j).toNat sig0)).length) rc1), (36, .int .i64 j), (35, .int .i64 ((d.gFrames_l.getD (i).toNat frm0).gSignals_n : Int)), (34, .slice ((d.gFrames_l.getD (i).toNat frm0).gSignals_a) ((d.gFrames_l.getD (i).toNat frm0).gSignals_n) ((d.gFrames_l.getD (i).toNat frm0).gSignals_c)), (5, .pointer (some ⟨b3, 0, none⟩)), (3, .int .i64 i), (4, .pointer (some ⟨b2, 0, none⟩)), (28, .int .i64 i), (27, .int .i64 (d.gFrames_n : Int)), (26, .slice d.gFrames_a d.gFrames_n d.gFrames_c), (1, .pointer (some ⟨b1, 0, none⟩))] w13 (by kernel_rfl) ?_
                    obtain ⟨p3, hp3⟩ := row1_addr (S13.nth 0 rfl) (show 0 < (sbits (((d.gFrames_l.getD (i).toNat frm0).gSignals_l).getD (j).toNat sig0)).length by first | omega | (simp; omega))
                    refine J.ok (OK.index 51 28 1 ra1 p3 ((sbits (((d.gFrames_l.getD (i).toNat frm0).gSignals_l).getD (j).toNat sig0)).length) (m).toNat m (p3.add (m).toNat) (by kernel_rfl) (by kernel_rfl) hp3 (by omega) (by first | omega | (simp; omega)) (by rw [Nat.mul_one])) ?_
                    refine J.ok (OK.ldCell 52 3 (p3.add (m).toNat) (.int .i64 ((sbits (((d.gFrames_l.getD (i).toNat frm0).gSignals_l).getD (j).toNat sig0)).getD (m).toNat 0)) (by kernel_rfl) (by kernel_rfl) (row1_cell (g := (Value.int .i64)) S13 0 rfl hp3 0 (m).toNat (by first | omega | (simp; omega)))) ?_
                    refine J.run 8 K6_21 [(55, .bool (decide (((sbits (((d.gFrames_l.getD (i).toNat frm0).gSignals_l).getD (j).toNat sig0)).getD (m).toNat 0) < 0))), (10, .int .i64 ((sbits (((d.gFrames_l.getD (i).toNat frm0).gSignals_l).getD (j).toNat sig0)).getD (m).toNat 0)), (49, .int .i64 m), (48, .int .i64 ((sbits (((d.gFrames_l.getD (i).toNat frm0).gSignals_l).getD (j).toNat sig0)).length : Int)), (47, .slice ra1 ((sbits (((d.gFrames_l.getD (i).toNat frm0).gSignals_l).getD (j).toNat sig0)).length) rc1), (36, .int .i64 j), (35, .int .i64 ((d.gFrames_l.getD (i).toNat frm0).gSignals_n : Int)), (34, .slice ((d.gFrames_l.getD (i).toNat frm0).gSignals_a) ((d.gFrames_l.getD (i).toNat frm0).gSignals_n) ((d.gFrames_l.getD (i).toNat frm0).gSignals_c)), (5, .pointer (some ⟨b3, 0, none⟩)), (3, .int .i64 i), (4, .pointer (some ⟨b2, 0, none⟩)), (28, .int .i64 i), (27, .int .i64 (d.gFrames_n : Int)), (26, .slice d.gFrames_a d.gFrames_n d.gFrames_c), (1, .pointer (some ⟨b1, 0, none⟩))] w13 (by kernel_rfl) ?_
                    by_cases fk7 : ((sbits (((d.gFrames_l.getD (i).toNat frm0).gSignals_l).getD (j).toNat sig0)).getD (m).toNat 0) < 0
                    · skip
                      refine J.head (.bool true) (congrArg Value.bool (decide_eq_true fk7)) ?_
                      refine J.run 29 K6_22 [(2, .bool false)] w13 (by kernel_rfl) ?_
                      refine J.ret Try.f6 [.bool false] Try.func6 ⟨by kernel_rfl, trivial⟩ ?_
                      refine hR _ _ ?_
                      exfalso; omega
                    · skip
                      refine J.head (.bool false) (congrArg Value.bool (decide_eq_false fk7)) ?_
                      refine J.run 2 K6_23 [(57, .pointer (some ⟨b2, 2, none⟩)), (56, .int .i64 ((sbits (((d.gFrames_l.getD (i).toNat frm0).gSignals_l).getD (j).toNat sig0)).getD (m).toNat 0)), (55, .bool false), (10, .int .i64 ((sbits (((d.gFrames_l.getD (i).toNat frm0).gSignals_l).getD (j).toNat sig0)).getD (m).toNat 0)), (49, .int .i64 m), (48, .int .i64 ((sbits (((d.gFrames_l.getD (i).toNat frm0).gSignals_l).getD (j).toNat sig0)).length : Int)), (47, .slice ra1 ((sbits (((d.gFrames_l.getD (i).toNat frm0).gSignals_l).getD (j).toNat sig0)).length) rc1), (36, .int .i64 j), (35, .int .i64 ((d.gFrames_l.getD (i).toNat frm0).gSignals_n : Int)), (34, .slice ((d.gFrames_l.getD (i).toNat frm0).gSignals_a) ((d.gFrames_l.getD (i).toNat frm0).gSignals_n) ((d.gFrames_l.getD (i).toNat frm0).gSignals_c)), (5, .pointer (some ⟨b3, 0, none⟩)), (3, .int .i64 i), (4, .pointer (some ⟨b2, 0, none⟩)), (28, .int .i64 i), (27, .int .i64 (d.gFrames_n : Int)), (26, .slice d.gFrames_a d.gFrames_n d.gFrames_c), (1, .pointer (some ⟨b1, 0, none⟩))] w13 (by kernel_rfl) ?_
                      refine J.ok (OK.ldBox S13 3 58 3 2 (.int .i64 ((d.gFrames_l.getD (i).toNat frm0).gLength)) (by kernel_rfl) rfl (by kernel_rfl)) ?_
                      refine J.run 1 K6_24 [(59, .int .i64 (IntKind.wrap .i64 (8 * ((d.gFrames_l.getD (i).toNat frm0).gLength)))), (56, .int .i64 ((sbits (((d.gFrames_l.getD (i).toNat frm0).gSignals_l).getD (j).toNat sig0)).getD (m).toNat 0)), (55, .bool false), (10, .int .i64 ((sbits (((d.gFrames_l.getD (i).toNat frm0).gSignals_l).getD (j).toNat sig0)).getD (m).toNat 0)), (49, .int .i64 m), (48, .int .i64 ((sbits (((d.gFrames_l.getD (i).toNat frm0).gSignals_l).getD (j).toNat sig0)).length : Int)), (47, .slice ra1 ((sbits (((d.gFrames_l.getD (i).toNat frm0).gSignals_l).getD (j).toNat sig0)).length) rc1), (36, .int .i64 j), (35, .int .i64 ((d.gFrames_l.getD (i).toNat frm0).gSignals_n : Int)), (34, .slice ((d.gFrames_l.getD (i).toNat frm0).gSignals_a) ((d.gFrames_l.getD (i).toNat frm0).gSignals_n) ((d.gFrames_l.getD (i).toNat frm0).gSignals_c)), (5, .pointer (some ⟨b3, 0, none⟩)), (3, .int .i64 i), (4, .pointer (some ⟨b2, 0, none⟩)), (28, .int .i64 i), (27, .int .i64 (d.gFrames_n : Int)), (26, .slice d.gFrames_a d.gFrames_n d.gFrames_c), (1, .pointer (some ⟨b1, 0, none⟩))] w13 (by kernel_rfl) ?_
                      refine J.head (.int .i64 (8 * ((d.gFrames_l.getD (i).toNat frm0).gLength))) (congrArg (Value.int .i64) (IntWalk.i64_in _ (by omega))) ?_
                      refine J.run 3 K6_25 [(62, .bool (decide (((sbits (((d.gFrames_l.getD (i).toNat frm0).gSignals_l).getD (j).toNat sig0)).getD (m).toNat 0) ≥ (8 * ((d.gFrames_l.getD (i).toNat frm0).gLength))))), (10, .int .i64 ((sbits (((d.gFrames_l.getD (i).toNat frm0).gSignals_l).getD (j).toNat sig0)).getD (m).toNat 0)), (49, .int .i64 m), (48, .int .i64 ((sbits (((d.gFrames_l.getD (i).toNat frm0).gSignals_l).getD (j).toNat sig0)).length : Int)), (47, .slice ra1 ((sbits (((d.gFrames_l.getD (i).toNat frm0).gSignals_l).getD (j).toNat sig0)).length) rc1), (36, .int .i64 j), (35, .int .i64 ((d.gFrames_l.getD (i).toNat frm0).gSignals_n : Int)), (34, .slice ((d.gFrames_l.getD (i).toNat frm0).gSignals_a) ((d.gFrames_l.getD (i).toNat frm0).gSignals_n) ((d.gFrames_l.getD (i).toNat frm0).gSignals_c)), (5, .pointer (some ⟨b3, 0, none⟩)), (3, .int .i64 i), (4, .pointer (some ⟨b2, 0, none⟩)), (28, .int .i64 i), (27, .int .i64 (d.gFrames_n : Int)), (26, .slice d.gFrames_a d.gFrames_n d.gFrames_c), (1, .pointer (some ⟨b1, 0, none⟩))] w13 (by kernel_rfl) ?_
                      by_cases fk8 : ((sbits (((d.gFrames_l.getD (i).toNat frm0).gSignals_l).getD (j).toNat sig0)).getD (m).toNat 0) ≥ (8 * ((d.gFrames_l.getD (i).toNat frm0).gLength))
                      · skip
                        refine J.head (.bool true) (congrArg Value.bool (decide_eq_true fk8)) ?_
                        refine J.run 22 K6_26 [(2, .bool false)] w13 (by kernel_rfl) ?_
                        refine J.ret Try.f6 [.bool false] Try.func6 ⟨by kernel_rfl, trivial⟩ ?_
                        refine hR _ _ ?_
                        exfalso; omega
                      · skip
                        refine J.head (.bool false) (congrArg Value.bool (decide_eq_false fk8)) ?_
                        refine J.run 4 K6_27 [(66, .bool (decide (((sbits (((d.gFrames_l.getD (i).toNat frm0).gSignals_l).getD (j).toNat sig0)).getD (m).toNat 0) ≥ 64))), (10, .int .i64 ((sbits (((d.gFrames_l.getD (i).toNat frm0).gSignals_l).getD (j).toNat sig0)).getD (m).toNat 0)), (49, .int .i64 m), (48, .int .i64 ((sbits (((d.gFrames_l.getD (i).toNat frm0).gSignals_l).getD (j).toNat sig0)).length : Int)), (47, .slice ra1 ((sbits (((d.gFrames_l.getD (i).toNat frm0).gSignals_l).getD (j).toNat sig0)).length) rc1), (36, .int .i64 j), (35, .int .i64 ((d.gFrames_l.getD (i).toNat frm0).gSignals_n : Int)), (34, .slice ((d.gFrames_l.getD (i).toNat frm0).gSignals_a) ((d.gFrames_l.getD (i).toNat frm0).gSignals_n) ((d.gFrames_l.getD (i).toNat frm0).gSignals_c)), (5, .pointer (some ⟨b3, 0, none⟩)), (3, .int .i64 i), (4, .pointer (some ⟨b2, 0, none⟩)), (28, .int .i64 i), (27, .int .i64 (d.gFrames_n : Int)), (26, .slice d.gFrames_a d.gFrames_n d.gFrames_c), (1, .pointer (some ⟨b1, 0, none⟩))] w13 (by kernel_rfl) ?_
                        by_cases fk9 : ((sbits (((d.gFrames_l.getD (i).toNat frm0).gSignals_l).getD (j).toNat sig0)).getD (m).toNat 0) ≥ 64
                        · skip
                          refine J.head (.bool true) (congrArg Value.bool (decide_eq_true fk9)) ?_
                          refine J.run 18 K6_28 [(2, .bool false)] w13 (by kernel_rfl) ?_
                          refine J.ret Try.f6 [.bool false] Try.func6 ⟨by kernel_rfl, trivial⟩ ?_
                          refine hR _ _ ?_
                          exfalso; omega
                        · skip
                          refine J.head (.bool false) (congrArg Value.bool (decide_eq_false fk9)) ?_
                          refine J.run 1 K6_29 [(67, .int .i64 ((sbits (((d.gFrames_l.getD (i).toNat frm0).gSignals_l).getD (j).toNat sig0)).getD (m).toNat 0)), (66, .bool false), (10, .int .i64 ((sbits (((d.gFrames_l.getD (i).toNat frm0).gSignals_l).getD (j).toNat sig0)).getD (m).toNat 0)), (49, .int .i64 m), (48, .int .i64 ((sbits (((d.gFrames_l.getD (i).toNat frm0).gSignals_l).getD (j).toNat sig0)).length : Int)), (47, .slice ra1 ((sbits (((d.gFrames_l.getD (i).toNat frm0).gSignals_l).getD (j).toNat sig0)).length) rc1), (36, .int .i64 j), (35, .int .i64 ((d.gFrames_l.getD (i).toNat frm0).gSignals_n : Int)), (34, .slice ((d.gFrames_l.getD (i).toNat frm0).gSignals_a) ((d.gFrames_l.getD (i).toNat frm0).gSignals_n) ((d.gFrames_l.getD (i).toNat frm0).gSignals_c)), (5, .pointer (some ⟨b3, 0, none⟩)), (3, .int .i64 i), (4, .pointer (some ⟨b2, 0, none⟩)), (28, .int .i64 i), (27, .int .i64 (d.gFrames_n : Int)), (26, .slice d.gFrames_a d.gFrames_n d.gFrames_c), (1, .pointer (some ⟨b1, 0, none⟩))] w13 (by kernel_rfl) ?_
                          refine J.ok (OK.indexP 68 43 64 1 b3 0 (((sbits (((d.gFrames_l.getD (i).toNat frm0).gSignals_l).getD (j).toNat sig0)).getD (m).toNat 0).toNat) ((sbits (((d.gFrames_l.getD (i).toNat frm0).gSignals_l).getD (j).toNat sig0)).getD (m).toNat 0) (by kernel_rfl) (by kernel_rfl) (by omega) (by omega)) ?_
                          refine J.head (.pointer (some ⟨b3, ((sbits (((d.gFrames_l.getD (i).toNat frm0).gSignals_l).getD (j).toNat sig0)).getD (m).toNat 0).toNat, none⟩)) (by first | rfl | (rw [Nat.zero_add, Nat.mul_one])) ?_
                          refine J.ok (OK.ldArr Value.bool S13 2 69 4 (((sbits (((d.gFrames_l.getD (i).toNat frm0).gSignals_l).getD (j).toNat sig0)).getD (m).toNat 0).toNat) false (by kernel_rfl) (by kernel_rfl) rfl (by first | omega | (simp; omega))) ?_
                          refine J.run 2 K6_30 [(71, .bool (tl.getD (((sbits (((d.gFrames_l.getD (i).toNat frm0).gSignals_l).getD (j).toNat sig0)).getD (m).toNat 0).toNat) false)), (10, .int .i64 ((sbits (((d.gFrames_l.getD (i).toNat frm0).gSignals_l).getD (j).toNat sig0)).getD (m).toNat 0)), (49, .int .i64 m), (48, .int .i64 ((sbits (((d.gFrames_l.getD (i).toNat frm0).gSignals_l).getD (j).toNat sig0)).length : Int)), (47, .slice ra1 ((sbits (((d.gFrames_l.getD (i).toNat frm0).gSignals_l).getD (j).toNat sig0)).length) rc1), (36, .int .i64 j), (35, .int .i64 ((d.gFrames_l.getD (i).toNat frm0).gSignals_n : Int)), (34, .slice ((d.gFrames_l.getD (i).toNat frm0).gSignals_a) ((d.gFrames_l.getD (i).toNat frm0).gSignals_n) ((d.gFrames_l.getD (i).toNat frm0).gSignals_c)), (5, .pointer (some ⟨b3, 0, none⟩)), (3, .int .i64 i), (4, .pointer (some ⟨b2, 0, none⟩)), (28, .int .i64 i), (27, .int .i64 (d.gFrames_n : Int)), (26, .slice d.gFrames_a d.gFrames_n d.gFrames_c), (1, .pointer (some ⟨b1, 0, none⟩))] w13 (by kernel_rfl) ?_
                          have fk11 : (tl.getD (((sbits (((d.gFrames_l.getD (i).toNat frm0).gSignals_l).getD (j).toNat sig0)).getD (m).toNat 0).toNat) false) = false := by rw [htm _ (by omega)]; exact free_bit hz (by omega)
                          refine J.head (.bool false) (congrArg Value.bool fk11) ?_
                          refine J.run 1 K6_31 [(72, .pointer (some ⟨b2, 3, none⟩)), (71, .bool false), (10, .int .i64 ((sbits (((d.gFrames_l.getD (i).toNat frm0).gSignals_l).getD (j).toNat sig0)).getD (m).toNat 0)), (49, .int .i64 m), (48, .int .i64 ((sbits (((d.gFrames_l.getD (i).toNat frm0).gSignals_l).getD (j).toNat sig0)).length : Int)), (47, .slice ra1 ((sbits (((d.gFrames_l.getD (i).toNat frm0).gSignals_l).getD (j).toNat sig0)).length) rc1), (36, .int .i64 j), (35, .int .i64 ((d.gFrames_l.getD (i).toNat frm0).gSignals_n : Int)), (34, .slice ((d.gFrames_l.getD (i).toNat frm0).gSignals_a) ((d.gFrames_l.getD (i).toNat frm0).gSignals_n) ((d.gFrames_l.getD (i).toNat frm0).gSignals_c)), (5, .pointer (some ⟨b3, 0, none⟩)), (3, .int .i64 i), (4, .pointer (some ⟨b2, 0, none⟩)), (28, .int .i64 i), (27, .int .i64 (d.gFrames_n : Int)), (26, .slice d.gFrames_a d.gFrames_n d.gFrames_c), (1, .pointer (some ⟨b1, 0, none⟩))] w13 (by kernel_rfl) ?_
                          refine J.ok (OK.ldBox S13 3 73 4 3 (.bool ((d.gFrames_l.getD (i).toNat frm0).gGuarded)) (by kernel_rfl) rfl (by kernel_rfl)) ?_
                          refine J.run 1 K6_32 [(74, .bool ((d.gFrames_l.getD (i).toNat frm0).gGuarded)), (71, .bool false), (10, .int .i64 ((sbits (((d.gFrames_l.getD (i).toNat frm0).gSignals_l).getD (j).toNat sig0)).getD (m).toNat 0)), (49, .int .i64 m), (48, .int .i64 ((sbits (((d.gFrames_l.getD (i).toNat frm0).gSignals_l).getD (j).toNat sig0)).length : Int)), (47, .slice ra1 ((sbits (((d.gFrames_l.getD (i).toNat frm0).gSignals_l).getD (j).toNat sig0)).length) rc1), (36, .int .i64 j), (35, .int .i64 ((d.gFrames_l.getD (i).toNat frm0).gSignals_n : Int)), (34, .slice ((d.gFrames_l.getD (i).toNat frm0).gSignals_a) ((d.gFrames_l.getD (i).toNat frm0).gSignals_n) ((d.gFrames_l.getD (i).toNat frm0).gSignals_c)), (5, .pointer (some ⟨b3, 0, none⟩)), (3, .int .i64 i), (4, .pointer (some ⟨b2, 0, none⟩)), (28, .int .i64 i), (27, .int .i64 (d.gFrames_n : Int)), (26, .slice d.gFrames_a d.gFrames_n d.gFrames_c), (1, .pointer (some ⟨b1, 0, none⟩))] w13 (by kernel_rfl) ?_
                          rcases Bool.eq_false_or_eq_true ((d.gFrames_l.getD (i).toNat frm0).gGuarded) with fk12 | fk12
                          · skip
                            refine J.head (.bool true) (congrArg Value.bool fk12) ?_
                            refine J.run 5 K6_33 [(78, .bool (decide (((sbits (((d.gFrames_l.getD (i).toNat frm0).gSignals_l).getD (j).toNat sig0)).getD (m).toNat 0) < 12))), (10, .int .i64 ((sbits (((d.gFrames_l.getD (i).toNat frm0).gSignals_l).getD (j).toNat sig0)).getD (m).toNat 0)), (49, .int .i64 m), (48, .int .i64 ((sbits (((d.gFrames_l.getD (i).toNat frm0).gSignals_l).getD (j).toNat sig0)).length : Int)), (47, .slice ra1 ((sbits (((d.gFrames_l.getD (i).toNat frm0).gSignals_l).getD (j).toNat sig0)).length) rc1), (36, .int .i64 j), (35, .int .i64 ((d.gFrames_l.getD (i).toNat frm0).gSignals_n : Int)), (34, .slice ((d.gFrames_l.getD (i).toNat frm0).gSignals_a) ((d.gFrames_l.getD (i).toNat frm0).gSignals_n) ((d.gFrames_l.getD (i).toNat frm0).gSignals_c)), (5, .pointer (some ⟨b3, 0, none⟩)), (3, .int .i64 i), (4, .pointer (some ⟨b2, 0, none⟩)), (28, .int .i64 i), (27, .int .i64 (d.gFrames_n : Int)), (26, .slice d.gFrames_a d.gFrames_n d.gFrames_c), (1, .pointer (some ⟨b1, 0, none⟩))] w13 (by kernel_rfl) ?_
                            have fk14 : ¬ (((sbits (((d.gFrames_l.getD (i).toNat frm0).gSignals_l).getD (j).toNat sig0)).getD (m).toNat 0) < 12) := by have h_ := hz2 _ (getD_mem (n := m.toNat) 0 (by omega)); simp only [outB, Bool.or_eq_false_iff, Bool.and_eq_false_iff, decide_eq_false_iff_not] at h_; rcases h_.2 with h2_ | h2_; rw [fk12] at h2_; cases h2_; exact h2_
                            refine J.head (.bool false) (congrArg Value.bool (decide_eq_false fk14)) ?_
                            refine J.run 4 K6_34 [(79, .int .i64 ((sbits (((d.gFrames_l.getD (i).toNat frm0).gSignals_l).getD (j).toNat sig0)).getD (m).toNat 0)), (49, .int .i64 m), (48, .int .i64 ((sbits (((d.gFrames_l.getD (i).toNat frm0).gSignals_l).getD (j).toNat sig0)).length : Int)), (47, .slice ra1 ((sbits (((d.gFrames_l.getD (i).toNat frm0).gSignals_l).getD (j).toNat sig0)).length) rc1), (36, .int .i64 j), (35, .int .i64 ((d.gFrames_l.getD (i).toNat frm0).gSignals_n : Int)), (34, .slice ((d.gFrames_l.getD (i).toNat frm0).gSignals_a) ((d.gFrames_l.getD (i).toNat frm0).gSignals_n) ((d.gFrames_l.getD (i).toNat frm0).gSignals_c)), (5, .pointer (some ⟨b3, 0, none⟩)), (3, .int .i64 i), (4, .pointer (some ⟨b2, 0, none⟩)), (28, .int .i64 i), (27, .int .i64 (d.gFrames_n : Int)), (26, .slice d.gFrames_a d.gFrames_n d.gFrames_c), (1, .pointer (some ⟨b1, 0, none⟩))] w13 (by kernel_rfl) ?_
                            refine J.ok (OK.indexP 80 43 64 1 b3 0 (((sbits (((d.gFrames_l.getD (i).toNat frm0).gSignals_l).getD (j).toNat sig0)).getD (m).toNat 0).toNat) ((sbits (((d.gFrames_l.getD (i).toNat frm0).gSignals_l).getD (j).toNat sig0)).getD (m).toNat 0) (by kernel_rfl) (by kernel_rfl) (by omega) (by omega)) ?_
                            refine J.head (.pointer (some ⟨b3, ((sbits (((d.gFrames_l.getD (i).toNat frm0).gSignals_l).getD (j).toNat sig0)).getD (m).toNat 0).toNat, none⟩)) (by first | rfl | (rw [Nat.zero_add, Nat.mul_one])) ?_
                            refine J.stArr Value.bool bool_one S13 2 tl 4 (((sbits (((d.gFrames_l.getD (i).toNat frm0).gSignals_l).getD (j).toNat sig0)).getD (m).toNat 0).toNat) true rfl (by kernel_rfl) (by first | omega | (simp; omega)) (by kernel_rfl) ?_
                            intro w14 S14
                            replace S14 : Sep w [rowOf encI ra1 rc1 3 1 (sbits (((d.gFrames_l.getD (i).toNat frm0).gSignals_l).getD (j).toNat sig0)), box b4 [.string ((((d.gFrames_l.getD (i).toNat frm0).gSignals_l).getD (j).toNat sig0).gName), .int .i64 ((((d.gFrames_l.getD (i).toNat frm0).gSignals_l).getD (j).toNat sig0).gStart), .int .i64 ((((d.gFrames_l.getD (i).toNat frm0).gSignals_l).getD (j).toNat sig0).gLength), .bool ((((d.gFrames_l.getD (i).toNat frm0).gSignals_l).getD (j).toNat sig0).gMotorola), .bool ((((d.gFrames_l.getD (i).toNat frm0).gSignals_l).getD (j).toNat sig0).gSigned), .int .i64 ((((d.gFrames_l.getD (i).toNat frm0).gSignals_l).getD (j).toNat sig0).gNum), .int .i64 ((((d.gFrames_l.getD (i).toNat frm0).gSignals_l).getD (j).toNat sig0).gOff), .int .i64 ((((d.gFrames_l.getD (i).toNat frm0).gSignals_l).getD (j).toNat sig0).gDen), .int .i64 ((((d.gFrames_l.getD (i).toNat frm0).gSignals_l).getD (j).toNat sig0).gLow), .int .i64 ((((d.gFrames_l.getD (i).toNat frm0).gSignals_l).getD (j).toNat sig0).gHigh)] 23, box b3 ((tl.set (((sbits (((d.gFrames_l.getD (i).toNat frm0).gSignals_l).getD (j).toNat sig0)).getD (m).toNat 0).toNat) true).map Value.bool) 43, box b2 [.string ((d.gFrames_l.getD (i).toNat frm0).gName), .int .i64 ((d.gFrames_l.getD (i).toNat frm0).gID), .int .i64 ((d.gFrames_l.getD (i).toNat frm0).gLength), .bool ((d.gFrames_l.getD (i).toNat frm0).gGuarded), .slice ((d.gFrames_l.getD (i).toNat frm0).gSignals_a) ((d.gFrames_l.getD (i).toNat frm0).gSignals_n) ((d.gFrames_l.getD (i).toNat frm0).gSignals_c)] 42, box b1 [.slice d.gFrames_a d.gFrames_n d.gFrames_c] 33] w14 := S14
                            refine J.run 4 K6_35 [(81, .int .i64 (IntKind.wrap .i64 (m + 1))), (48, .int .i64 ((sbits (((d.gFrames_l.getD (i).toNat frm0).gSignals_l).getD (j).toNat sig0)).length : Int)), (47, .slice ra1 ((sbits (((d.gFrames_l.getD (i).toNat frm0).gSignals_l).getD (j).toNat sig0)).length) rc1), (36, .int .i64 j), (35, .int .i64 ((d.gFrames_l.getD (i).toNat frm0).gSignals_n : Int)), (34, .slice ((d.gFrames_l.getD (i).toNat frm0).gSignals_a) ((d.gFrames_l.getD (i).toNat frm0).gSignals_n) ((d.gFrames_l.getD (i).toNat frm0).gSignals_c)), (5, .pointer (some ⟨b3, 0, none⟩)), (3, .int .i64 i), (4, .pointer (some ⟨b2, 0, none⟩)), (28, .int .i64 i), (27, .int .i64 (d.gFrames_n : Int)), (26, .slice d.gFrames_a d.gFrames_n d.gFrames_c), (1, .pointer (some ⟨b1, 0, none⟩))] w14 (by kernel_rfl) ?_
                            refine J.head (.int .i64 (m + 1)) (congrArg (Value.int .i64) (IntWalk.i64_in _ (by omega))) ?_
                            refine J.run 3 K6_18 [(49, .int .i64 (m + 1)), (48, .int .i64 ((sbits (((d.gFrames_l.getD (i).toNat frm0).gSignals_l).getD (j).toNat sig0)).length : Int)), (47, .slice ra1 ((sbits (((d.gFrames_l.getD (i).toNat frm0).gSignals_l).getD (j).toNat sig0)).length) rc1), (36, .int .i64 j), (35, .int .i64 ((d.gFrames_l.getD (i).toNat frm0).gSignals_n : Int)), (34, .slice ((d.gFrames_l.getD (i).toNat frm0).gSignals_a) ((d.gFrames_l.getD (i).toNat frm0).gSignals_n) ((d.gFrames_l.getD (i).toNat frm0).gSignals_c)), (5, .pointer (some ⟨b3, 0, none⟩)), (3, .int .i64 i), (4, .pointer (some ⟨b2, 0, none⟩)), (28, .int .i64 i), (27, .int .i64 (d.gFrames_n : Int)), (26, .slice d.gFrames_a d.gFrames_n d.gFrames_c), (1, .pointer (some ⟨b1, 0, none⟩))] w14 (by kernel_rfl) ?_
                            refine J.run 0 K6_18 [(49, .int .i64 (m + 1)), (48, .int .i64 ((sbits (((d.gFrames_l.getD (i).toNat frm0).gSignals_l).getD (j).toNat sig0)).length : Int)), (47, .slice ra1 ((sbits (((d.gFrames_l.getD (i).toNat frm0).gSignals_l).getD (j).toNat sig0)).length) rc1), (36, .int .i64 j), (35, .int .i64 ((d.gFrames_l.getD (i).toNat frm0).gSignals_n : Int)), (34, .slice ((d.gFrames_l.getD (i).toNat frm0).gSignals_a) ((d.gFrames_l.getD (i).toNat frm0).gSignals_n) ((d.gFrames_l.getD (i).toNat frm0).gSignals_c)), (5, .pointer (some ⟨b3, 0, none⟩)), (3, .int .i64 i), (4, .pointer (some ⟨b2, 0, none⟩)), (28, .int .i64 i), (27, .int .i64 (d.gFrames_n : Int)), (26, .slice d.gFrames_a d.gFrames_n d.gFrames_c), (1, .pointer (some ⟨b1, 0, none⟩))] w14 (by kernel_rfl) ?_
                            exact ih3 _ (show (((sbits ((d.gFrames_l.getD (i).toNat frm0).gSignals_l.getD (j).toNat sig0)).length : Int) - (m + 1)).toNat < mm3 from by omega) (tl.set (((sbits (((d.gFrames_l.getD (i).toNat frm0).gSignals_l).getD (j).toNat sig0)).getD (m).toNat 0).toNat) true) (m + 1) w14 (by omega) (by omega) (by simp [h64m]) (set_bit (l := sbits ((d.gFrames_l.getD (i).toNat frm0).gSignals_l.getD (j).toNat sig0)) (m := m) h64m m0 (by omega) (by omega) htm) S14 rfl
                          · skip
                            refine J.head (.bool false) (congrArg Value.bool fk12) ?_
                            refine J.run 9 K6_36 [(79, .int .i64 ((sbits (((d.gFrames_l.getD (i).toNat frm0).gSignals_l).getD (j).toNat sig0)).getD (m).toNat 0)), (49, .int .i64 m), (48, .int .i64 ((sbits (((d.gFrames_l.getD (i).toNat frm0).gSignals_l).getD (j).toNat sig0)).length : Int)), (47, .slice ra1 ((sbits (((d.gFrames_l.getD (i).toNat frm0).gSignals_l).getD (j).toNat sig0)).length) rc1), (36, .int .i64 j), (35, .int .i64 ((d.gFrames_l.getD (i).toNat frm0).gSignals_n : Int)), (34, .slice ((d.gFrames_l.getD (i).toNat frm0).gSignals_a) ((d.gFrames_l.getD (i).toNat frm0).gSignals_n) ((d.gFrames_l.getD (i).toNat frm0).gSignals_c)), (5, .pointer (some ⟨b3, 0, none⟩)), (3, .int .i64 i), (4, .pointer (some ⟨b2, 0, none⟩)), (28, .int .i64 i), (27, .int .i64 (d.gFrames_n : Int)), (26, .slice d.gFrames_a d.gFrames_n d.gFrames_c), (1, .pointer (some ⟨b1, 0, none⟩))] w13 (by kernel_rfl) ?_
                            refine J.ok (OK.indexP 80 43 64 1 b3 0 (((sbits (((d.gFrames_l.getD (i).toNat frm0).gSignals_l).getD (j).toNat sig0)).getD (m).toNat 0).toNat) ((sbits (((d.gFrames_l.getD (i).toNat frm0).gSignals_l).getD (j).toNat sig0)).getD (m).toNat 0) (by kernel_rfl) (by kernel_rfl) (by omega) (by omega)) ?_
                            refine J.head (.pointer (some ⟨b3, ((sbits (((d.gFrames_l.getD (i).toNat frm0).gSignals_l).getD (j).toNat sig0)).getD (m).toNat 0).toNat, none⟩)) (by first | rfl | (rw [Nat.zero_add, Nat.mul_one])) ?_
                            refine J.stArr Value.bool bool_one S13 2 tl 4 (((sbits (((d.gFrames_l.getD (i).toNat frm0).gSignals_l).getD (j).toNat sig0)).getD (m).toNat 0).toNat) true rfl (by kernel_rfl) (by first | omega | (simp; omega)) (by kernel_rfl) ?_
                            intro w15 S15
                            replace S15 : Sep w [rowOf encI ra1 rc1 3 1 (sbits (((d.gFrames_l.getD (i).toNat frm0).gSignals_l).getD (j).toNat sig0)), box b4 [.string ((((d.gFrames_l.getD (i).toNat frm0).gSignals_l).getD (j).toNat sig0).gName), .int .i64 ((((d.gFrames_l.getD (i).toNat frm0).gSignals_l).getD (j).toNat sig0).gStart), .int .i64 ((((d.gFrames_l.getD (i).toNat frm0).gSignals_l).getD (j).toNat sig0).gLength), .bool ((((d.gFrames_l.getD (i).toNat frm0).gSignals_l).getD (j).toNat sig0).gMotorola), .bool ((((d.gFrames_l.getD (i).toNat frm0).gSignals_l).getD (j).toNat sig0).gSigned), .int .i64 ((((d.gFrames_l.getD (i).toNat frm0).gSignals_l).getD (j).toNat sig0).gNum), .int .i64 ((((d.gFrames_l.getD (i).toNat frm0).gSignals_l).getD (j).toNat sig0).gOff), .int .i64 ((((d.gFrames_l.getD (i).toNat frm0).gSignals_l).getD (j).toNat sig0).gDen), .int .i64 ((((d.gFrames_l.getD (i).toNat frm0).gSignals_l).getD (j).toNat sig0).gLow), .int .i64 ((((d.gFrames_l.getD (i).toNat frm0).gSignals_l).getD (j).toNat sig0).gHigh)] 23, box b3 ((tl.set (((sbits (((d.gFrames_l.getD (i).toNat frm0).gSignals_l).getD (j).toNat sig0)).getD (m).toNat 0).toNat) true).map Value.bool) 43, box b2 [.string ((d.gFrames_l.getD (i).toNat frm0).gName), .int .i64 ((d.gFrames_l.getD (i).toNat frm0).gID), .int .i64 ((d.gFrames_l.getD (i).toNat frm0).gLength), .bool ((d.gFrames_l.getD (i).toNat frm0).gGuarded), .slice ((d.gFrames_l.getD (i).toNat frm0).gSignals_a) ((d.gFrames_l.getD (i).toNat frm0).gSignals_n) ((d.gFrames_l.getD (i).toNat frm0).gSignals_c)] 42, box b1 [.slice d.gFrames_a d.gFrames_n d.gFrames_c] 33] w15 := S15
                            refine J.run 4 K6_37 [(81, .int .i64 (IntKind.wrap .i64 (m + 1))), (48, .int .i64 ((sbits (((d.gFrames_l.getD (i).toNat frm0).gSignals_l).getD (j).toNat sig0)).length : Int)), (47, .slice ra1 ((sbits (((d.gFrames_l.getD (i).toNat frm0).gSignals_l).getD (j).toNat sig0)).length) rc1), (36, .int .i64 j), (35, .int .i64 ((d.gFrames_l.getD (i).toNat frm0).gSignals_n : Int)), (34, .slice ((d.gFrames_l.getD (i).toNat frm0).gSignals_a) ((d.gFrames_l.getD (i).toNat frm0).gSignals_n) ((d.gFrames_l.getD (i).toNat frm0).gSignals_c)), (5, .pointer (some ⟨b3, 0, none⟩)), (3, .int .i64 i), (4, .pointer (some ⟨b2, 0, none⟩)), (28, .int .i64 i), (27, .int .i64 (d.gFrames_n : Int)), (26, .slice d.gFrames_a d.gFrames_n d.gFrames_c), (1, .pointer (some ⟨b1, 0, none⟩))] w15 (by kernel_rfl) ?_
                            refine J.head (.int .i64 (m + 1)) (congrArg (Value.int .i64) (IntWalk.i64_in _ (by omega))) ?_
                            refine J.run 3 K6_18 [(49, .int .i64 (m + 1)), (48, .int .i64 ((sbits (((d.gFrames_l.getD (i).toNat frm0).gSignals_l).getD (j).toNat sig0)).length : Int)), (47, .slice ra1 ((sbits (((d.gFrames_l.getD (i).toNat frm0).gSignals_l).getD (j).toNat sig0)).length) rc1), (36, .int .i64 j), (35, .int .i64 ((d.gFrames_l.getD (i).toNat frm0).gSignals_n : Int)), (34, .slice ((d.gFrames_l.getD (i).toNat frm0).gSignals_a) ((d.gFrames_l.getD (i).toNat frm0).gSignals_n) ((d.gFrames_l.getD (i).toNat frm0).gSignals_c)), (5, .pointer (some ⟨b3, 0, none⟩)), (3, .int .i64 i), (4, .pointer (some ⟨b2, 0, none⟩)), (28, .int .i64 i), (27, .int .i64 (d.gFrames_n : Int)), (26, .slice d.gFrames_a d.gFrames_n d.gFrames_c), (1, .pointer (some ⟨b1, 0, none⟩))] w15 (by kernel_rfl) ?_
                            refine J.run 0 K6_18 [(49, .int .i64 (m + 1)), (48, .int .i64 ((sbits (((d.gFrames_l.getD (i).toNat frm0).gSignals_l).getD (j).toNat sig0)).length : Int)), (47, .slice ra1 ((sbits (((d.gFrames_l.getD (i).toNat frm0).gSignals_l).getD (j).toNat sig0)).length) rc1), (36, .int .i64 j), (35, .int .i64 ((d.gFrames_l.getD (i).toNat frm0).gSignals_n : Int)), (34, .slice ((d.gFrames_l.getD (i).toNat frm0).gSignals_a) ((d.gFrames_l.getD (i).toNat frm0).gSignals_n) ((d.gFrames_l.getD (i).toNat frm0).gSignals_c)), (5, .pointer (some ⟨b3, 0, none⟩)), (3, .int .i64 i), (4, .pointer (some ⟨b2, 0, none⟩)), (28, .int .i64 i), (27, .int .i64 (d.gFrames_n : Int)), (26, .slice d.gFrames_a d.gFrames_n d.gFrames_c), (1, .pointer (some ⟨b1, 0, none⟩))] w15 (by kernel_rfl) ?_
                            exact ih3 _ (show (((sbits ((d.gFrames_l.getD (i).toNat frm0).gSignals_l.getD (j).toNat sig0)).length : Int) - (m + 1)).toNat < mm3 from by omega) (tl.set (((sbits (((d.gFrames_l.getD (i).toNat frm0).gSignals_l).getD (j).toNat sig0)).getD (m).toNat 0).toNat) true) (m + 1) w15 (by omega) (by omega) (by simp [h64m]) (set_bit (l := sbits ((d.gFrames_l.getD (i).toNat frm0).gSignals_l.getD (j).toNat sig0)) (m := m) h64m m0 (by omega) (by omega) htm) S15 rfl
                  · skip
                    refine J.head (.bool false) (congrArg Value.bool (decide_eq_false fk6)) ?_
                    refine J.run 5 K6_38 [(82, .int .i64 (IntKind.wrap .i64 (j + 1))), (35, .int .i64 ((d.gFrames_l.getD (i).toNat frm0).gSignals_n : Int)), (34, .slice ((d.gFrames_l.getD (i).toNat frm0).gSignals_a) ((d.gFrames_l.getD (i).toNat frm0).gSignals_n) ((d.gFrames_l.getD (i).toNat frm0).gSignals_c)), (5, .pointer (some ⟨b3, 0, none⟩)), (3, .int .i64 i), (4, .pointer (some ⟨b2, 0, none⟩)), (28, .int .i64 i), (27, .int .i64 (d.gFrames_n : Int)), (26, .slice d.gFrames_a d.gFrames_n d.gFrames_c), (1, .pointer (some ⟨b1, 0, none⟩))] w13 (by kernel_rfl) ?_
                    refine J.head (.int .i64 (j + 1)) (congrArg (Value.int .i64) (IntWalk.i64_in _ (by omega))) ?_
                    refine J.run 3 K6_12 [(36, .int .i64 (j + 1)), (35, .int .i64 ((d.gFrames_l.getD (i).toNat frm0).gSignals_n : Int)), (34, .slice ((d.gFrames_l.getD (i).toNat frm0).gSignals_a) ((d.gFrames_l.getD (i).toNat frm0).gSignals_n) ((d.gFrames_l.getD (i).toNat frm0).gSignals_c)), (5, .pointer (some ⟨b3, 0, none⟩)), (3, .int .i64 i), (4, .pointer (some ⟨b2, 0, none⟩)), (28, .int .i64 i), (27, .int .i64 (d.gFrames_n : Int)), (26, .slice d.gFrames_a d.gFrames_n d.gFrames_c), (1, .pointer (some ⟨b1, 0, none⟩))] w13 (by kernel_rfl) ?_
                    have S16 : Sep w [rowOf encI ra1 rc1 3 1 (sbits (((d.gFrames_l.getD (i).toNat frm0).gSignals_l).getD (j).toNat sig0)), box b3 (tl.map Value.bool) 43, box b2 [.string ((d.gFrames_l.getD (i).toNat frm0).gName), .int .i64 ((d.gFrames_l.getD (i).toNat frm0).gID), .int .i64 ((d.gFrames_l.getD (i).toNat frm0).gLength), .bool ((d.gFrames_l.getD (i).toNat frm0).gGuarded), .slice ((d.gFrames_l.getD (i).toNat frm0).gSignals_a) ((d.gFrames_l.getD (i).toNat frm0).gSignals_n) ((d.gFrames_l.getD (i).toNat frm0).gSignals_c)] 42, box b1 [.slice d.gFrames_a d.gFrames_n d.gFrames_c] 33] w13 := S13.erase 1
                    clear S13
                    have S17 : Sep w [box b3 (tl.map Value.bool) 43, box b2 [.string ((d.gFrames_l.getD (i).toNat frm0).gName), .int .i64 ((d.gFrames_l.getD (i).toNat frm0).gID), .int .i64 ((d.gFrames_l.getD (i).toNat frm0).gLength), .bool ((d.gFrames_l.getD (i).toNat frm0).gGuarded), .slice ((d.gFrames_l.getD (i).toNat frm0).gSignals_a) ((d.gFrames_l.getD (i).toNat frm0).gSignals_n) ((d.gFrames_l.getD (i).toNat frm0).gSignals_c)] 42, box b1 [.slice d.gFrames_a d.gFrames_n d.gFrames_c] 33] w13 := S16.erase 0
                    clear S16
                    refine J.run 0 K6_12 [(36, .int .i64 (j + 1)), (35, .int .i64 ((d.gFrames_l.getD (i).toNat frm0).gSignals_n : Int)), (34, .slice ((d.gFrames_l.getD (i).toNat frm0).gSignals_a) ((d.gFrames_l.getD (i).toNat frm0).gSignals_n) ((d.gFrames_l.getD (i).toNat frm0).gSignals_c)), (5, .pointer (some ⟨b3, 0, none⟩)), (3, .int .i64 i), (4, .pointer (some ⟨b2, 0, none⟩)), (28, .int .i64 i), (27, .int .i64 (d.gFrames_n : Int)), (26, .slice d.gFrames_a d.gFrames_n d.gFrames_c), (1, .pointer (some ⟨b1, 0, none⟩))] w13 (by kernel_rfl) ?_
                    exact ih2 _ (show (((d.gFrames_l.getD (i).toNat frm0).gSignals_n : Int) - (j + 1)).toNat < mm2 from by omega) tl (j + 1) w13 (by omega) (by omega) (h64m) (fun n hn => by rw [taken_next _ j0 (by omega), htm n hn, List.take_of_length_le (by omega)]) S17 rfl
                exact L6_3 _ tl 0 w12 (by omega) (by omega) (h64) (by intro n hn; rw [ht n hn]; simp) S12 rfl
              · skip
                refine J.head (.bool true) (congrArg Value.bool (bne_iff_ne.2 fk5)) ?_
                refine J.run 5 K6_39 [(2, .bool false)] w12 (by kernel_rfl) ?_
                refine J.ret Try.f6 [.bool false] Try.func6 ⟨by kernel_rfl, trivial⟩ ?_
                refine hR _ _ ?_
                exfalso; omega
            · skip
              refine J.head (.bool false) (congrArg Value.bool (decide_eq_false fk4)) ?_
              refine J.run 4 K6_40 [(3, .int .i64 i), (4, .pointer (some ⟨b2, 0, none⟩)), (28, .int .i64 i), (27, .int .i64 (d.gFrames_n : Int)), (26, .slice d.gFrames_a d.gFrames_n d.gFrames_c), (1, .pointer (some ⟨b1, 0, none⟩))] w9 (by kernel_rfl) ?_
              refine J.ok (OK.ldBox S9 2 84 33 0 (.agg #[.slice d.gFrames_a d.gFrames_n d.gFrames_c]) (by kernel_rfl) rfl (by kernel_rfl)) ?_
              refine J.run 1 K6_41 [(85, .pointer (some ⟨b2, 1, none⟩)), (84, .agg #[.slice d.gFrames_a d.gFrames_n d.gFrames_c]), (3, .int .i64 i), (4, .pointer (some ⟨b2, 0, none⟩)), (28, .int .i64 i), (27, .int .i64 (d.gFrames_n : Int)), (26, .slice d.gFrames_a d.gFrames_n d.gFrames_c), (1, .pointer (some ⟨b1, 0, none⟩))] w9 (by kernel_rfl) ?_
              refine J.ok (OK.ldBox S9 1 86 3 1 (.int .i64 ((d.gFrames_l.getD (i).toNat frm0).gID)) (by kernel_rfl) rfl (by kernel_rfl)) ?_
              refine J.callF 87 17 #[.agg #[.slice d.gFrames_a d.gFrames_n d.gFrames_c], .int .i64 ((d.gFrames_l.getD (i).toNat frm0).gID)] hb17 (by kernel_rfl) (frameat_any d (d.gFrames_l.getD (i).toNat frm0).gID i.toNat w9 (dbQ_sep hd S9) (by omega) rfl (fun j hj => (twin_no (hh2 j hj (by omega))).2)) ?_
              rintro _ w16 ⟨rfl, T5⟩
              have S18 : Sep w [box b3 (tl.map Value.bool) 43, box b2 [.string ((d.gFrames_l.getD (i).toNat frm0).gName), .int .i64 ((d.gFrames_l.getD (i).toNat frm0).gID), .int .i64 ((d.gFrames_l.getD (i).toNat frm0).gLength), .bool ((d.gFrames_l.getD (i).toNat frm0).gGuarded), .slice ((d.gFrames_l.getD (i).toNat frm0).gSignals_a) ((d.gFrames_l.getD (i).toNat frm0).gSignals_n) ((d.gFrames_l.getD (i).toNat frm0).gSignals_c)] 42, box b1 [.slice d.gFrames_a d.gFrames_n d.gFrames_c] 33] w16 := S9.trans T5
              clear T5 S9
              refine J.run 3 K6_42 [(89, .bool true), (88, .agg #[.string ((d.gFrames_l.getD (i).toNat frm0).gName), .int .i64 ((d.gFrames_l.getD (i).toNat frm0).gID), .int .i64 ((d.gFrames_l.getD (i).toNat frm0).gLength), .bool ((d.gFrames_l.getD (i).toNat frm0).gGuarded), .slice ((d.gFrames_l.getD (i).toNat frm0).gSignals_a) ((d.gFrames_l.getD (i).toNat frm0).gSignals_n) ((d.gFrames_l.getD (i).toNat frm0).gSignals_c)]), (3, .int .i64 i), (4, .pointer (some ⟨b2, 0, none⟩)), (28, .int .i64 i), (27, .int .i64 (d.gFrames_n : Int)), (26, .slice d.gFrames_a d.gFrames_n d.gFrames_c), (1, .pointer (some ⟨b1, 0, none⟩))] w16 (by kernel_rfl) ?_
              refine J.new S18 11 [.string ByteArray.empty, .int .i64 0, .int .i64 0, .bool false, .slice none 0 0] 42 (by kernel_rfl) ?_
              intro b5 w17 S19
              refine J.stBox S19 0 42 0 (.agg #[.string ((d.gFrames_l.getD (i).toNat frm0).gName), .int .i64 ((d.gFrames_l.getD (i).toNat frm0).gID), .int .i64 ((d.gFrames_l.getD (i).toNat frm0).gLength), .bool ((d.gFrames_l.getD (i).toNat frm0).gGuarded), .slice ((d.gFrames_l.getD (i).toNat frm0).gSignals_a) ((d.gFrames_l.getD (i).toNat frm0).gSignals_n) ((d.gFrames_l.getD (i).toNat frm0).gSignals_c)]) [.string ((d.gFrames_l.getD (i).toNat frm0).gName), .int .i64 ((d.gFrames_l.getD (i).toNat frm0).gID), .int .i64 ((d.gFrames_l.getD (i).toNat frm0).gLength), .bool ((d.gFrames_l.getD (i).toNat frm0).gGuarded), .slice ((d.gFrames_l.getD (i).toNat frm0).gSignals_a) ((d.gFrames_l.getD (i).toNat frm0).gSignals_n) ((d.gFrames_l.getD (i).toNat frm0).gSignals_c)] [box b5 [.string ((d.gFrames_l.getD (i).toNat frm0).gName), .int .i64 ((d.gFrames_l.getD (i).toNat frm0).gID), .int .i64 ((d.gFrames_l.getD (i).toNat frm0).gLength), .bool ((d.gFrames_l.getD (i).toNat frm0).gGuarded), .slice ((d.gFrames_l.getD (i).toNat frm0).gSignals_a) ((d.gFrames_l.getD (i).toNat frm0).gSignals_n) ((d.gFrames_l.getD (i).toNat frm0).gSignals_c)] 42, box b3 (tl.map Value.bool) 43, box b2 [.string ((d.gFrames_l.getD (i).toNat frm0).gName), .int .i64 ((d.gFrames_l.getD (i).toNat frm0).gID), .int .i64 ((d.gFrames_l.getD (i).toNat frm0).gLength), .bool ((d.gFrames_l.getD (i).toNat frm0).gGuarded), .slice ((d.gFrames_l.getD (i).toNat frm0).gSignals_a) ((d.gFrames_l.getD (i).toNat frm0).gSignals_n) ((d.gFrames_l.getD (i).toNat frm0).gSignals_c)] 42, box b1 [.slice d.gFrames_a d.gFrames_n d.gFrames_c] 33] (by kernel_rfl) rfl (by kernel_rfl) (by kernel_rfl) rfl ?_
              intro w18 S20
              refine J.run 8 K6_43 [(92, .bool false), (11, .pointer (some ⟨b5, 0, none⟩)), (3, .int .i64 i), (4, .pointer (some ⟨b2, 0, none⟩)), (28, .int .i64 i), (27, .int .i64 (d.gFrames_n : Int)), (26, .slice d.gFrames_a d.gFrames_n d.gFrames_c), (1, .pointer (some ⟨b1, 0, none⟩))] w18 (by kernel_rfl) ?_
              refine J.ok (OK.ldBox S20 0 93 42 0 (.agg #[.string ((d.gFrames_l.getD (i).toNat frm0).gName), .int .i64 ((d.gFrames_l.getD (i).toNat frm0).gID), .int .i64 ((d.gFrames_l.getD (i).toNat frm0).gLength), .bool ((d.gFrames_l.getD (i).toNat frm0).gGuarded), .slice ((d.gFrames_l.getD (i).toNat frm0).gSignals_a) ((d.gFrames_l.getD (i).toNat frm0).gSignals_n) ((d.gFrames_l.getD (i).toNat frm0).gSignals_c)]) (by kernel_rfl) rfl (by kernel_rfl)) ?_
              refine J.ok (OK.ldBox S20 2 94 42 0 (.agg #[.string ((d.gFrames_l.getD (i).toNat frm0).gName), .int .i64 ((d.gFrames_l.getD (i).toNat frm0).gID), .int .i64 ((d.gFrames_l.getD (i).toNat frm0).gLength), .bool ((d.gFrames_l.getD (i).toNat frm0).gGuarded), .slice ((d.gFrames_l.getD (i).toNat frm0).gSignals_a) ((d.gFrames_l.getD (i).toNat frm0).gSignals_n) ((d.gFrames_l.getD (i).toNat frm0).gSignals_c)]) (by kernel_rfl) rfl (by kernel_rfl)) ?_
              refine J.callF 95 18 #[.agg #[.string ((d.gFrames_l.getD (i).toNat frm0).gName), .int .i64 ((d.gFrames_l.getD (i).toNat frm0).gID), .int .i64 ((d.gFrames_l.getD (i).toNat frm0).gLength), .bool ((d.gFrames_l.getD (i).toNat frm0).gGuarded), .slice ((d.gFrames_l.getD (i).toNat frm0).gSignals_a) ((d.gFrames_l.getD (i).toNat frm0).gSignals_n) ((d.gFrames_l.getD (i).toNat frm0).gSignals_c)], .agg #[.string ((d.gFrames_l.getD (i).toNat frm0).gName), .int .i64 ((d.gFrames_l.getD (i).toNat frm0).gID), .int .i64 ((d.gFrames_l.getD (i).toNat frm0).gLength), .bool ((d.gFrames_l.getD (i).toNat frm0).gGuarded), .slice ((d.gFrames_l.getD (i).toNat frm0).gSignals_a) ((d.gFrames_l.getD (i).toNat frm0).gSignals_n) ((d.gFrames_l.getD (i).toNat frm0).gSignals_c)]] hb18 (by kernel_rfl) (same_any (d.gFrames_l.getD (i).toNat frm0) _ (frmQ_sep hq1 S20)) ?_
              rintro _ w19 ⟨rfl, T6⟩
              have S21 : Sep w [box b5 [.string ((d.gFrames_l.getD (i).toNat frm0).gName), .int .i64 ((d.gFrames_l.getD (i).toNat frm0).gID), .int .i64 ((d.gFrames_l.getD (i).toNat frm0).gLength), .bool ((d.gFrames_l.getD (i).toNat frm0).gGuarded), .slice ((d.gFrames_l.getD (i).toNat frm0).gSignals_a) ((d.gFrames_l.getD (i).toNat frm0).gSignals_n) ((d.gFrames_l.getD (i).toNat frm0).gSignals_c)] 42, box b3 (tl.map Value.bool) 43, box b2 [.string ((d.gFrames_l.getD (i).toNat frm0).gName), .int .i64 ((d.gFrames_l.getD (i).toNat frm0).gID), .int .i64 ((d.gFrames_l.getD (i).toNat frm0).gLength), .bool ((d.gFrames_l.getD (i).toNat frm0).gGuarded), .slice ((d.gFrames_l.getD (i).toNat frm0).gSignals_a) ((d.gFrames_l.getD (i).toNat frm0).gSignals_n) ((d.gFrames_l.getD (i).toNat frm0).gSignals_c)] 42, box b1 [.slice d.gFrames_a d.gFrames_n d.gFrames_c] 33] w19 := S20.trans T6
              clear T6 S20
              refine J.run 8 K6_44 [(98, .pointer (some ⟨b1, 0, none⟩)), (3, .int .i64 i), (4, .pointer (some ⟨b2, 0, none⟩)), (28, .int .i64 i), (27, .int .i64 (d.gFrames_n : Int)), (26, .slice d.gFrames_a d.gFrames_n d.gFrames_c), (1, .pointer (some ⟨b1, 0, none⟩))] w19 (by kernel_rfl) ?_
              refine J.ok (OK.ldBox S21 3 99 31 0 (.slice d.gFrames_a d.gFrames_n d.gFrames_c) (by kernel_rfl) rfl (by kernel_rfl)) ?_
              refine J.run 1 K6_45 [(100, .int .i64 i), (99, .slice d.gFrames_a d.gFrames_n d.gFrames_c), (4, .pointer (some ⟨b2, 0, none⟩)), (28, .int .i64 i), (27, .int .i64 (d.gFrames_n : Int)), (26, .slice d.gFrames_a d.gFrames_n d.gFrames_c), (1, .pointer (some ⟨b1, 0, none⟩))] w19 (by kernel_rfl) ?_
              refine J.ok (OK.slice 101 31 5 d.gFrames_a d.gFrames_n d.gFrames_c none (some (.int .i64 i)) 0 ((i).toNat) (by kernel_rfl) (by kernel_rfl) (.inl ⟨rfl, rfl⟩) (.inr ⟨_, _, rfl, by omega⟩) (by first | omega | (simp; omega)) (by first | omega | (simp; omega))) ?_
              refine J.head (.slice d.gFrames_a ((i).toNat) d.gFrames_c) (by rw [subA_zero]; rfl) ?_
              refine J.run 5 K6_46 [(103, .int .i64 0), (102, .int .i64 ((i).toNat : Int)), (101, .slice d.gFrames_a ((i).toNat) d.gFrames_c), (4, .pointer (some ⟨b2, 0, none⟩)), (28, .int .i64 i), (27, .int .i64 (d.gFrames_n : Int)), (26, .slice d.gFrames_a d.gFrames_n d.gFrames_c), (1, .pointer (some ⟨b1, 0, none⟩))] w19 (by kernel_rfl) ?_
              have L6_4 : ∀ (mm_ : Nat) (n : Int) (w20 : World), (0 ≤ n) → (n ≤ i) → Sep w [box b5 [.string ((d.gFrames_l.getD (i).toNat frm0).gName), .int .i64 ((d.gFrames_l.getD (i).toNat frm0).gID), .int .i64 ((d.gFrames_l.getD (i).toNat frm0).gLength), .bool ((d.gFrames_l.getD (i).toNat frm0).gGuarded), .slice ((d.gFrames_l.getD (i).toNat frm0).gSignals_a) ((d.gFrames_l.getD (i).toNat frm0).gSignals_n) ((d.gFrames_l.getD (i).toNat frm0).gSignals_c)] 42, box b3 (tl.map Value.bool) 43, box b2 [.string ((d.gFrames_l.getD (i).toNat frm0).gName), .int .i64 ((d.gFrames_l.getD (i).toNat frm0).gID), .int .i64 ((d.gFrames_l.getD (i).toNat frm0).gLength), .bool ((d.gFrames_l.getD (i).toNat frm0).gGuarded), .slice ((d.gFrames_l.getD (i).toNat frm0).gSignals_a) ((d.gFrames_l.getD (i).toNat frm0).gSignals_n) ((d.gFrames_l.getD (i).toNat frm0).gSignals_c)] 42, box b1 [.slice d.gFrames_a d.gFrames_n d.gFrames_c] 33] w20 → (i - n).toNat = mm_ → J Try.prog 6 121 R K6_46 [(103, .int .i64 n), (102, .int .i64 ((i).toNat : Int)), (101, .slice d.gFrames_a ((i).toNat) d.gFrames_c), (4, .pointer (some ⟨b2, 0, none⟩)), (28, .int .i64 i), (27, .int .i64 (d.gFrames_n : Int)), (26, .slice d.gFrames_a d.gFrames_n d.gFrames_c), (1, .pointer (some ⟨b1, 0, none⟩))] w20 := by
                intro mm4
                induction mm4 using Nat.strongRecOn with
                | _ mm4 ih4 =>
                intro n w20 n0 n1 S22 hm4
                refine J.run 5 K6_47 [(104, .bool (decide (n < ((i).toNat : Int)))), (103, .int .i64 n), (102, .int .i64 ((i).toNat : Int)), (101, .slice d.gFrames_a ((i).toNat) d.gFrames_c), (4, .pointer (some ⟨b2, 0, none⟩)), (28, .int .i64 i), (27, .int .i64 (d.gFrames_n : Int)), (26, .slice d.gFrames_a d.gFrames_n d.gFrames_c), (1, .pointer (some ⟨b1, 0, none⟩))] w20 (by kernel_rfl) ?_
                by_cases fk15 : n < ((i).toNat : Int)
                · skip
                  refine J.head (.bool true) (congrArg Value.bool (decide_eq_true fk15)) ?_
                  obtain ⟨htw1, htw2⟩ := twin_no (hh2 n.toNat (by omega) (by omega))
                  refine J.run 6 K6_48 [(103, .int .i64 n), (102, .int .i64 ((i).toNat : Int)), (101, .slice d.gFrames_a ((i).toNat) d.gFrames_c), (4, .pointer (some ⟨b2, 0, none⟩)), (28, .int .i64 i), (27, .int .i64 (d.gFrames_n : Int)), (26, .slice d.gFrames_a d.gFrames_n d.gFrames_c), (1, .pointer (some ⟨b1, 0, none⟩))] w20 (by kernel_rfl) ?_
                  obtain ⟨p4, hp4, hc3⟩ := q2.at frm0 (n).toNat (by omega)
                  have hq3 := getD_Q q3 frm0 (n := (n).toNat) (by have := q2.len_eq; omega)
                  obtain ⟨q18, q19, q20, q21, q22, q23, _⟩ := id hq3
                  have ql3 := q22.len_eq
                  refine J.ok (OK.index 105 31 5 d.gFrames_a p4 ((i).toNat) (n).toNat n (p4.add ((n).toNat * 5)) (by kernel_rfl) (by kernel_rfl) hp4 (by omega) (by omega) rfl) ?_
                  refine J.ok (OK.ldCells 106 42 (p4.add ((n).toNat * 5)) [.string ((d.gFrames_l.getD (n).toNat frm0).gName), .int .i64 ((d.gFrames_l.getD (n).toNat frm0).gID), .int .i64 ((d.gFrames_l.getD (n).toNat frm0).gLength), .bool ((d.gFrames_l.getD (n).toNat frm0).gGuarded), .slice ((d.gFrames_l.getD (n).toNat frm0).gSignals_a) ((d.gFrames_l.getD (n).toNat frm0).gSignals_n) ((d.gFrames_l.getD (n).toNat frm0).gSignals_c)] (by kernel_rfl) (by kernel_rfl) (by kernel_rfl) (fun j_ v_ hj_ => S22.cell (hc3 j_ v_ hj_))) ?_
                  refine J.new S22 14 [.string ByteArray.empty, .int .i64 0, .int .i64 0, .bool false, .slice none 0 0] 42 (by kernel_rfl) ?_
                  intro b6 w21 S23
                  refine J.stBox S23 0 42 0 (.agg #[.string ((d.gFrames_l.getD (n).toNat frm0).gName), .int .i64 ((d.gFrames_l.getD (n).toNat frm0).gID), .int .i64 ((d.gFrames_l.getD (n).toNat frm0).gLength), .bool ((d.gFrames_l.getD (n).toNat frm0).gGuarded), .slice ((d.gFrames_l.getD (n).toNat frm0).gSignals_a) ((d.gFrames_l.getD (n).toNat frm0).gSignals_n) ((d.gFrames_l.getD (n).toNat frm0).gSignals_c)]) [.string ((d.gFrames_l.getD (n).toNat frm0).gName), .int .i64 ((d.gFrames_l.getD (n).toNat frm0).gID), .int .i64 ((d.gFrames_l.getD (n).toNat frm0).gLength), .bool ((d.gFrames_l.getD (n).toNat frm0).gGuarded), .slice ((d.gFrames_l.getD (n).toNat frm0).gSignals_a) ((d.gFrames_l.getD (n).toNat frm0).gSignals_n) ((d.gFrames_l.getD (n).toNat frm0).gSignals_c)] [box b6 [.string ((d.gFrames_l.getD (n).toNat frm0).gName), .int .i64 ((d.gFrames_l.getD (n).toNat frm0).gID), .int .i64 ((d.gFrames_l.getD (n).toNat frm0).gLength), .bool ((d.gFrames_l.getD (n).toNat frm0).gGuarded), .slice ((d.gFrames_l.getD (n).toNat frm0).gSignals_a) ((d.gFrames_l.getD (n).toNat frm0).gSignals_n) ((d.gFrames_l.getD (n).toNat frm0).gSignals_c)] 42, box b5 [.string ((d.gFrames_l.getD (i).toNat frm0).gName), .int .i64 ((d.gFrames_l.getD (i).toNat frm0).gID), .int .i64 ((d.gFrames_l.getD (i).toNat frm0).gLength), .bool ((d.gFrames_l.getD (i).toNat frm0).gGuarded), .slice ((d.gFrames_l.getD (i).toNat frm0).gSignals_a) ((d.gFrames_l.getD (i).toNat frm0).gSignals_n) ((d.gFrames_l.getD (i).toNat frm0).gSignals_c)] 42, box b3 (tl.map Value.bool) 43, box b2 [.string ((d.gFrames_l.getD (i).toNat frm0).gName), .int .i64 ((d.gFrames_l.getD (i).toNat frm0).gID), .int .i64 ((d.gFrames_l.getD (i).toNat frm0).gLength), .bool ((d.gFrames_l.getD (i).toNat frm0).gGuarded), .slice ((d.gFrames_l.getD (i).toNat frm0).gSignals_a) ((d.gFrames_l.getD (i).toNat frm0).gSignals_n) ((d.gFrames_l.getD (i).toNat frm0).gSignals_c)] 42, box b1 [.slice d.gFrames_a d.gFrames_n d.gFrames_c] 33] (by kernel_rfl) rfl (by kernel_rfl) (by kernel_rfl) rfl ?_
                  intro w22 S24
                  refine J.run 4 K6_49 [(107, .pointer (some ⟨b6, 0, none⟩)), (14, .pointer (some ⟨b6, 0, none⟩)), (103, .int .i64 n), (102, .int .i64 ((i).toNat : Int)), (101, .slice d.gFrames_a ((i).toNat) d.gFrames_c), (4, .pointer (some ⟨b2, 0, none⟩)), (28, .int .i64 i), (27, .int .i64 (d.gFrames_n : Int)), (26, .slice d.gFrames_a d.gFrames_n d.gFrames_c), (1, .pointer (some ⟨b1, 0, none⟩))] w22 (by kernel_rfl) ?_
                  refine J.ok (OK.ldBox S24 0 108 9 0 (.string ((d.gFrames_l.getD (n).toNat frm0).gName)) (by kernel_rfl) rfl (by kernel_rfl)) ?_
                  refine J.run 1 K6_50 [(109, .pointer (some ⟨b2, 0, none⟩)), (108, .string ((d.gFrames_l.getD (n).toNat frm0).gName)), (14, .pointer (some ⟨b6, 0, none⟩)), (103, .int .i64 n), (102, .int .i64 ((i).toNat : Int)), (101, .slice d.gFrames_a ((i).toNat) d.gFrames_c), (4, .pointer (some ⟨b2, 0, none⟩)), (28, .int .i64 i), (27, .int .i64 (d.gFrames_n : Int)), (26, .slice d.gFrames_a d.gFrames_n d.gFrames_c), (1, .pointer (some ⟨b1, 0, none⟩))] w22 (by kernel_rfl) ?_
                  refine J.ok (OK.ldBox S24 3 110 9 0 (.string ((d.gFrames_l.getD (i).toNat frm0).gName)) (by kernel_rfl) rfl (by kernel_rfl)) ?_
                  refine J.run 2 K6_51 [(112, .bool (((d.gFrames_l.getD (n).toNat frm0).gName).toList == ((d.gFrames_l.getD (i).toNat frm0).gName).toList)), (14, .pointer (some ⟨b6, 0, none⟩)), (103, .int .i64 n), (102, .int .i64 ((i).toNat : Int)), (101, .slice d.gFrames_a ((i).toNat) d.gFrames_c), (4, .pointer (some ⟨b2, 0, none⟩)), (28, .int .i64 i), (27, .int .i64 (d.gFrames_n : Int)), (26, .slice d.gFrames_a d.gFrames_n d.gFrames_c), (1, .pointer (some ⟨b1, 0, none⟩))] w22 (by kernel_rfl) ?_
                  have fk17 : (((d.gFrames_l.getD (n).toNat frm0).gName).toList == ((d.gFrames_l.getD (i).toNat frm0).gName).toList) = false := htw1
                  refine J.head (.bool false) (congrArg Value.bool fk17) ?_
                  refine J.run 1 K6_52 [(113, .pointer (some ⟨b6, 1, none⟩)), (112, .bool false), (103, .int .i64 n), (102, .int .i64 ((i).toNat : Int)), (101, .slice d.gFrames_a ((i).toNat) d.gFrames_c), (4, .pointer (some ⟨b2, 0, none⟩)), (28, .int .i64 i), (27, .int .i64 (d.gFrames_n : Int)), (26, .slice d.gFrames_a d.gFrames_n d.gFrames_c), (1, .pointer (some ⟨b1, 0, none⟩))] w22 (by kernel_rfl) ?_
                  refine J.ok (OK.ldBox S24 0 114 3 1 (.int .i64 ((d.gFrames_l.getD (n).toNat frm0).gID)) (by kernel_rfl) rfl (by kernel_rfl)) ?_
                  refine J.run 1 K6_53 [(115, .pointer (some ⟨b2, 1, none⟩)), (114, .int .i64 ((d.gFrames_l.getD (n).toNat frm0).gID)), (112, .bool false), (103, .int .i64 n), (102, .int .i64 ((i).toNat : Int)), (101, .slice d.gFrames_a ((i).toNat) d.gFrames_c), (4, .pointer (some ⟨b2, 0, none⟩)), (28, .int .i64 i), (27, .int .i64 (d.gFrames_n : Int)), (26, .slice d.gFrames_a d.gFrames_n d.gFrames_c), (1, .pointer (some ⟨b1, 0, none⟩))] w22 (by kernel_rfl) ?_
                  refine J.ok (OK.ldBox S24 3 116 3 1 (.int .i64 ((d.gFrames_l.getD (i).toNat frm0).gID)) (by kernel_rfl) rfl (by kernel_rfl)) ?_
                  refine J.run 3 K6_54 [(118, .bool (((d.gFrames_l.getD (n).toNat frm0).gID) == ((d.gFrames_l.getD (i).toNat frm0).gID))), (103, .int .i64 n), (102, .int .i64 ((i).toNat : Int)), (101, .slice d.gFrames_a ((i).toNat) d.gFrames_c), (4, .pointer (some ⟨b2, 0, none⟩)), (28, .int .i64 i), (27, .int .i64 (d.gFrames_n : Int)), (26, .slice d.gFrames_a d.gFrames_n d.gFrames_c), (1, .pointer (some ⟨b1, 0, none⟩))] w22 (by kernel_rfl) ?_
                  by_cases fk18 : ((d.gFrames_l.getD (n).toNat frm0).gID) = ((d.gFrames_l.getD (i).toNat frm0).gID)
                  · skip
                    refine J.head (.bool true) (congrArg Value.bool (beq_iff_eq.2 fk18)) ?_
                    refine J.run 5 K6_55 [(2, .bool false)] w22 (by kernel_rfl) ?_
                    refine J.ret Try.f6 [.bool false] Try.func6 ⟨by kernel_rfl, trivial⟩ ?_
                    refine hR _ _ ?_
                    exfalso; omega
                  · skip
                    refine J.head (.bool false) (congrArg Value.bool (beq_eq_false_iff_ne.2 fk18)) ?_
                    refine J.run 5 K6_56 [(119, .int .i64 (IntKind.wrap .i64 (n + 1))), (102, .int .i64 ((i).toNat : Int)), (101, .slice d.gFrames_a ((i).toNat) d.gFrames_c), (4, .pointer (some ⟨b2, 0, none⟩)), (28, .int .i64 i), (27, .int .i64 (d.gFrames_n : Int)), (26, .slice d.gFrames_a d.gFrames_n d.gFrames_c), (1, .pointer (some ⟨b1, 0, none⟩))] w22 (by kernel_rfl) ?_
                    refine J.head (.int .i64 (n + 1)) (congrArg (Value.int .i64) (IntWalk.i64_in _ (by omega))) ?_
                    refine J.run 3 K6_46 [(103, .int .i64 (n + 1)), (102, .int .i64 ((i).toNat : Int)), (101, .slice d.gFrames_a ((i).toNat) d.gFrames_c), (4, .pointer (some ⟨b2, 0, none⟩)), (28, .int .i64 i), (27, .int .i64 (d.gFrames_n : Int)), (26, .slice d.gFrames_a d.gFrames_n d.gFrames_c), (1, .pointer (some ⟨b1, 0, none⟩))] w22 (by kernel_rfl) ?_
                    have S25 : Sep w [box b5 [.string ((d.gFrames_l.getD (i).toNat frm0).gName), .int .i64 ((d.gFrames_l.getD (i).toNat frm0).gID), .int .i64 ((d.gFrames_l.getD (i).toNat frm0).gLength), .bool ((d.gFrames_l.getD (i).toNat frm0).gGuarded), .slice ((d.gFrames_l.getD (i).toNat frm0).gSignals_a) ((d.gFrames_l.getD (i).toNat frm0).gSignals_n) ((d.gFrames_l.getD (i).toNat frm0).gSignals_c)] 42, box b3 (tl.map Value.bool) 43, box b2 [.string ((d.gFrames_l.getD (i).toNat frm0).gName), .int .i64 ((d.gFrames_l.getD (i).toNat frm0).gID), .int .i64 ((d.gFrames_l.getD (i).toNat frm0).gLength), .bool ((d.gFrames_l.getD (i).toNat frm0).gGuarded), .slice ((d.gFrames_l.getD (i).toNat frm0).gSignals_a) ((d.gFrames_l.getD (i).toNat frm0).gSignals_n) ((d.gFrames_l.getD (i).toNat frm0).gSignals_c)] 42, box b1 [.slice d.gFrames_a d.gFrames_n d.gFrames_c] 33] w22 := S24.erase 0
                    clear S24
                    refine J.run 0 K6_46 [(103, .int .i64 (n + 1)), (102, .int .i64 ((i).toNat : Int)), (101, .slice d.gFrames_a ((i).toNat) d.gFrames_c), (4, .pointer (some ⟨b2, 0, none⟩)), (28, .int .i64 i), (27, .int .i64 (d.gFrames_n : Int)), (26, .slice d.gFrames_a d.gFrames_n d.gFrames_c), (1, .pointer (some ⟨b1, 0, none⟩))] w22 (by kernel_rfl) ?_
                    exact ih4 _ (show (i - (n + 1)).toNat < mm4 from by omega) (n + 1) w22 (by omega) (by omega) S25 rfl
                · skip
                  refine J.head (.bool false) (congrArg Value.bool (decide_eq_false fk15)) ?_
                  refine J.run 5 K6_57 [(120, .int .i64 (IntKind.wrap .i64 (i + 1))), (27, .int .i64 (d.gFrames_n : Int)), (26, .slice d.gFrames_a d.gFrames_n d.gFrames_c), (1, .pointer (some ⟨b1, 0, none⟩))] w20 (by kernel_rfl) ?_
                  refine J.head (.int .i64 (i + 1)) (congrArg (Value.int .i64) (IntWalk.i64_in _ (by omega))) ?_
                  refine J.run 3 K6_6 [(28, .int .i64 (i + 1)), (27, .int .i64 (d.gFrames_n : Int)), (26, .slice d.gFrames_a d.gFrames_n d.gFrames_c), (1, .pointer (some ⟨b1, 0, none⟩))] w20 (by kernel_rfl) ?_
                  have S26 : Sep w [box b5 [.string ((d.gFrames_l.getD (i).toNat frm0).gName), .int .i64 ((d.gFrames_l.getD (i).toNat frm0).gID), .int .i64 ((d.gFrames_l.getD (i).toNat frm0).gLength), .bool ((d.gFrames_l.getD (i).toNat frm0).gGuarded), .slice ((d.gFrames_l.getD (i).toNat frm0).gSignals_a) ((d.gFrames_l.getD (i).toNat frm0).gSignals_n) ((d.gFrames_l.getD (i).toNat frm0).gSignals_c)] 42, box b3 (tl.map Value.bool) 43, box b1 [.slice d.gFrames_a d.gFrames_n d.gFrames_c] 33] w20 := S22.erase 2
                  clear S22
                  have S27 : Sep w [box b5 [.string ((d.gFrames_l.getD (i).toNat frm0).gName), .int .i64 ((d.gFrames_l.getD (i).toNat frm0).gID), .int .i64 ((d.gFrames_l.getD (i).toNat frm0).gLength), .bool ((d.gFrames_l.getD (i).toNat frm0).gGuarded), .slice ((d.gFrames_l.getD (i).toNat frm0).gSignals_a) ((d.gFrames_l.getD (i).toNat frm0).gSignals_n) ((d.gFrames_l.getD (i).toNat frm0).gSignals_c)] 42, box b1 [.slice d.gFrames_a d.gFrames_n d.gFrames_c] 33] w20 := S26.erase 1
                  clear S26
                  have S28 : Sep w [box b1 [.slice d.gFrames_a d.gFrames_n d.gFrames_c] 33] w20 := S27.erase 0
                  clear S27
                  refine J.run 0 K6_6 [(28, .int .i64 (i + 1)), (27, .int .i64 (d.gFrames_n : Int)), (26, .slice d.gFrames_a d.gFrames_n d.gFrames_c), (1, .pointer (some ⟨b1, 0, none⟩))] w20 (by kernel_rfl) ?_
                  exact ih1 _ (show ((d.gFrames_n : Int) - (i + 1)).toNat < mm1 from by omega) (i + 1) w20 (by omega) (by omega) S28 rfl
              exact L6_4 _ 0 w19 (by omega) (by omega) S21 rfl
          exact L6_2 _ (List.replicate 64 false) 0 w8 (by omega) (by omega) (by simp) (fun n hn => taken_start _ n) S8 rfl
        · skip
          refine J.head (.bool false) (congrArg Value.bool (decide_eq_false fk3)) ?_
          refine J.run 6 K6_58 [(2, .bool true)] w5 (by kernel_rfl) ?_
          refine J.ret Try.f6 [.bool true] Try.func6 ⟨by kernel_rfl, trivial⟩ ?_
          refine hR _ _ ?_
          exact ⟨rfl, S5.nil⟩
      exact L6_1 _ 0 w4 (by omega) (by omega) S4 rfl
    · skip
      refine J.head (.bool true) (congrArg Value.bool (by simp [fk2])) ?_
      refine J.run 5 K6_59 [(2, .bool true)] w4 (by kernel_rfl) ?_
      refine J.ret Try.f6 [.bool true] Try.func6 ⟨by kernel_rfl, trivial⟩ ?_
      refine hR _ _ ?_
      exact ⟨rfl, S4.nil⟩
  · skip
    refine J.head (.bool true) (congrArg Value.bool (by rw [fk1]; rfl)) ?_
    refine J.run 10 K6_60 [(2, .bool true)] w3 (by kernel_rfl) ?_
    refine J.ret Try.f6 [.bool true] Try.func6 ⟨by kernel_rfl, trivial⟩ ?_
    refine hR _ _ ?_
    exact ⟨rfl, S3.nil⟩

end Go.Proofs.Ytpmkdhdcejcpfaa
