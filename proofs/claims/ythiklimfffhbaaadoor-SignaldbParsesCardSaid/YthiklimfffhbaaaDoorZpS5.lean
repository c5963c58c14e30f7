/- Walks of functions of this seat, printed by a program over the engine. Conditions: as each theorem says. -/
import Derived.Test.YthiklimfffhbaaaDoorZpS4
namespace Go.Proofs.YthiklimfffhbaaaDoor
noncomputable section
open Go.Eng Go.RowKit
set_option linter.unusedSimpArgs false
set_option linter.unusedVariables false
def hdBad (f : Frm) : Bool := !inB f.gID 0 2047 || !inB f.gLength 1 8 || (f.gGuarded && decide (f.gLength < 2))
def twinB (f x : Frm) : Bool := eqT x.gName f.gName || x.gID == f.gID
def headErr (d : Db) (k : Nat) : Int :=
  if nameB (d.gFrames_l.getD k frm0).gName = false then 1 else if hdBad (d.gFrames_l.getD k frm0) then 2 else if 16 < (d.gFrames_l.getD k frm0).gSignals_n then 5 else
  if (d.gFrames_l.take k).any (twinB (d.gFrames_l.getD k frm0)) then 8 else 0
def frmR (d : Db) (k : Nat) : ByteArray × Int := if headErr d k ≠ 0 then ((d.gFrames_l.getD k frm0).gName, headErr d k) else sigsF (d.gFrames_l.getD k frm0)
def faultF (d : Db) : ByteArray × Int := if 64 < d.gFrames_n then (ByteArray.empty, 5) else pickF d.gFrames_l.length (frmR d)
theorem hd1 {d : Db} {k : Nat} (h : nameB (d.gFrames_l.getD k frm0).gName = false) : headErr d k = 1 := by unfold headErr; rw [if_pos h]
theorem hd2 {d : Db} {k : Nat} (h : nameB (d.gFrames_l.getD k frm0).gName = true) (h2 : hdBad (d.gFrames_l.getD k frm0) = true) : headErr d k = 2 := by unfold headErr; rw [if_neg (by rw [h]; decide), if_pos h2]
theorem hd5 {d : Db} {k : Nat} (h : nameB (d.gFrames_l.getD k frm0).gName = true) (h2 : hdBad (d.gFrames_l.getD k frm0) = false) (h3 : 16 < (d.gFrames_l.getD k frm0).gSignals_n) : headErr d k = 5 := by
  unfold headErr; rw [if_neg (by rw [h]; decide), if_neg (by rw [h2]; decide), if_pos h3]
theorem hd8 {d : Db} {k : Nat} (h : nameB (d.gFrames_l.getD k frm0).gName = true) (h2 : hdBad (d.gFrames_l.getD k frm0) = false) (h3 : ¬ 16 < (d.gFrames_l.getD k frm0).gSignals_n) (h4 : (d.gFrames_l.take k).any (twinB (d.gFrames_l.getD k frm0)) = true) : headErr d k = 8 := by
  unfold headErr; rw [if_neg (by rw [h]; decide), if_neg (by rw [h2]; decide), if_neg h3, if_pos h4]
theorem hd0 {d : Db} {k : Nat} (h : nameB (d.gFrames_l.getD k frm0).gName = true) (h2 : hdBad (d.gFrames_l.getD k frm0) = false) (h3 : ¬ 16 < (d.gFrames_l.getD k frm0).gSignals_n) (h4 : (d.gFrames_l.take k).any (twinB (d.gFrames_l.getD k frm0)) = false) : headErr d k = 0 := by
  unfold headErr; rw [if_neg (by rw [h]; decide), if_neg (by rw [h2]; decide), if_neg h3, if_neg (by rw [h4]; decide)]
theorem bad_yes {f : Frm} (h : ¬ (0 ≤ f.gID ∧ f.gID ≤ 2047) ∨ ¬ (1 ≤ f.gLength ∧ f.gLength ≤ 8) ∨ f.gGuarded = true ∧ f.gLength < 2) : hdBad f = true := by
  unfold hdBad
  rcases h with h | h | ⟨h, h2⟩
  · rw [show inB f.gID 0 2047 = false by (cases hx : inB f.gID 0 2047 with | false => rfl | true => exact absurd (inB_iff.1 hx) h)]; simp
  · rw [show inB f.gLength 1 8 = false by (cases hx : inB f.gLength 1 8 with | false => rfl | true => exact absurd (inB_iff.1 hx) h)]; simp
  · rw [h, decide_eq_true h2]; simp
theorem bad_no {f : Frm} (h : 0 ≤ f.gID ∧ f.gID ≤ 2047) (h2 : 1 ≤ f.gLength ∧ f.gLength ≤ 8) (h3 : f.gGuarded = false ∨ ¬ f.gLength < 2) : hdBad f = false := by
  unfold hdBad
  rw [inB_iff.2 h, inB_iff.2 h2]
  rcases h3 with h3 | h3
  · rw [h3]; rfl
  · rw [decide_eq_false h3]; simp
theorem frm_head {d : Db} {k : Nat} {e : Int} (h : headErr d k = e) (h0 : e ≠ 0) : frmR d k = ((d.gFrames_l.getD k frm0).gName, e) := by unfold frmR; rw [if_pos (by rw [h]; exact h0), h]
theorem frm_sig {d : Db} {k : Nat} (h : headErr d k = 0) : frmR d k = sigsF (d.gFrames_l.getD k frm0) := by unfold frmR; rw [if_neg (by rw [h]; decide)]
theorem fault_at {d : Db} {k : Nat} {r : ByteArray × Int} (hn : ¬ 64 < d.gFrames_n) (hi : k < d.gFrames_l.length) (hq : ∀ j, j < k → (frmR d j).2 = 0) (h : frmR d k = r) (h0 : r.2 ≠ 0) : faultF d = r := by
  unfold faultF; rw [if_neg hn, pick_at hi hq (by rw [h]; exact h0), h]
theorem fault_none {d : Db} (hn : ¬ 64 < d.gFrames_n) (hq : ∀ j, j < d.gFrames_l.length → (frmR d j).2 = 0) : faultF d = (ByteArray.empty, 0) := by unfold faultF; rw [if_neg hn, pick_none hq]
theorem fault_full {d : Db} (hn : 64 < d.gFrames_n) : faultF d = (ByteArray.empty, 5) := by unfold faultF; rw [if_pos hn]
theorem frm_step {d : Db} {i : Int} (h0 : 0 ≤ i) (hq : ∀ k, k < i.toNat → (frmR d k).2 = 0) (h : (frmR d i.toNat).2 = 0) : ∀ k, k < (i + 1).toNat → (frmR d k).2 = 0 := by
  intro k hk
  by_cases e : k = i.toNat
  · subst e; exact h
  · exact hq k (by omega)
theorem take_any_no {α : Type} {l : List α} {q : α → Bool} {n : Nat} (d : α) (hn : n ≤ l.length) (h : ∀ j, j < n → q (l.getD j d) = false) : (l.take n).any q = false := by
  rw [List.any_eq_false]
  intro x hx
  obtain ⟨j, hj, rfl⟩ := List.mem_iff_getElem.1 hx
  simp only [List.length_take] at hj
  have := h j (by omega)
  have e : (l.take n)[j]'(by simp; omega) = l.getD j d := by simp [List.getD, show j < l.length by omega]
  rw [e, this]; simp
theorem take_any_yes {α : Type} {l : List α} {q : α → Bool} {n j : Nat} (d : α) (hn : n ≤ l.length) (hj : j < n) (h : q (l.getD j d) = true) : (l.take n).any q = true := by
  refine List.any_eq_true.2 ⟨l.getD j d, ?_, h⟩
  have e : (l.take n)[j]'(by simp; omega) = l.getD j d := by simp [List.getD, show j < l.length by omega]
  rw [← e]; exact List.getElem_mem _
theorem all_step {q : Nat → Prop} {i : Int} (h0 : 0 ≤ i) (hq : ∀ k, k < i.toNat → q k) (h : q i.toNat) : ∀ k, k < (i + 1).toNat → q k := by
  intro k hk
  by_cases e : k = i.toNat
  · subst e; exact h
  · exact hq k (by omega)
theorem sigs_all {f : Frm} (h : ∀ j, j < f.gSignals_l.length → sigErr f j = 0) : (sigsF f).2 = 0 := (sigs_none h).2
theorem contains_at {l : List Int} {x : Int} {j : Nat} (hj : j < l.length) (h : l.getD j 0 = x) : l.contains x = true := by rw [List.contains_iff_mem, ← h]; exact getD_mem 0 hj
theorem contains_no {l : List Int} {x : Int} (h : ∀ j, j < l.length → l.getD j 0 ≠ x) : l.contains x = false := by
  cases hc : l.contains x with
  | false => rfl
  | true =>
    rw [List.contains_iff_mem] at hc
    obtain ⟨j, hj, e⟩ := List.mem_iff_getElem.1 hc
    exact absurd (by simpa [List.getD, hj] using e) (h j hj)

theorem hb65 : HasBody Tryd.prog 65 := fun _ _ => by kernel_rfl
def K65_0 := adv 2 [] (bodyOf Tryd.f65)
def K65_1 := adv 5 [] (popK K65_0)
def K65_2 := adv 1 [] (popK K65_1)
def K65_3 := adv 2 [] (popK K65_2)
def K65_4 := adv 8 [] K65_3
def K65_5 := adv 1 [] K65_3
def K65_6 := adv 1 [] (popK K65_5)
def K65_7 := adv 4 [] (popK K65_6)
set_option maxRecDepth 20000 in
set_option maxHeartbeats 20000000 in
theorem twin_any (f x : Frm) (bx : Nat) (w : World) (hb1 : (box bx [.string f.gName, .int .i64 f.gID, .int .i64 f.gLength, .bool f.gGuarded, .slice f.gSignals_a f.gSignals_n f.gSignals_c] 34).holds w) : Ret Tryd.prog 65 #[.agg #[.string x.gName, .int .i64 x.gID, .int .i64 x.gLength, .bool x.gGuarded, .slice x.gSignals_a x.gSignals_n x.gSignals_c], .pointer (some ⟨bx, 0, none⟩)] w (fun v w' => v = .bool (twinB f x) ∧ Sep w [] w') := by
 have S0 := Sep.refl w
 refine Ret.named fun R hR => ?_
 refine Ret.of_J (N := 16) [(0, .agg #[.string x.gName, .int .i64 x.gID, .int .i64 x.gLength, .bool x.gGuarded, .slice x.gSignals_a x.gSignals_n x.gSignals_c]), (1, .pointer (some ⟨bx, 0, none⟩))] Tryd.func65 rfl rfl (Nat.le_of_ble_eq_true (by kernel_rfl)) (by kernel_rfl) ?_
 refine J.run 2 K65_0 [(0, .agg #[.string x.gName, .int .i64 x.gID, .int .i64 x.gLength, .bool x.gGuarded, .slice x.gSignals_a x.gSignals_n x.gSignals_c]), (1, .pointer (some ⟨bx, 0, none⟩))] w (by kernel_rfl) ?_
 refine J.new S0 2 [.string x.gName, .int .i64 x.gID, .int .i64 x.gLength, .bool x.gGuarded, .slice x.gSignals_a x.gSignals_n x.gSignals_c] 34 (by kernel_rfl) ?_
 intro b1 w1 S1
 refine J.run 5 K65_1 [(4, .pointer (some ⟨b1, 0, none⟩)), (2, .pointer (some ⟨b1, 0, none⟩)), (1, .pointer (some ⟨bx, 0, none⟩))] w1 (by kernel_rfl) ?_
 refine J.ok (OK.ldBox S1 0 5 9 0 (.string x.gName) (by kernel_rfl) rfl (by kernel_rfl)) ?_
 refine J.run 1 K65_2 [(6, .pointer (some ⟨bx, 0, none⟩)), (5, .string x.gName), (2, .pointer (some ⟨b1, 0, none⟩)), (1, .pointer (some ⟨bx, 0, none⟩))] w1 (by kernel_rfl) ?_
 refine J.ok (OK.ldRo S1 hb1 7 9 0 (.string f.gName) (by kernel_rfl) (by kernel_rfl)) ?_
 refine J.run 2 K65_3 [(9, .bool (x.gName.toList == f.gName.toList)), (2, .pointer (some ⟨b1, 0, none⟩)), (1, .pointer (some ⟨bx, 0, none⟩))] w1 (by kernel_rfl) ?_
 rcases Bool.eq_false_or_eq_true (x.gName.toList == f.gName.toList) with fk1 | fk1
 ·skip
  refine J.head (.bool true) (congrArg Value.bool fk1) ?_
  refine J.run 8 K65_4 [(3, .bool true)] w1 (by kernel_rfl) ?_
  refine J.ret Tryd.f65 [.bool true] Tryd.func65 ⟨by kernel_rfl, trivial⟩ ?_
  refine hR _ _ ?_
  exact ⟨congrArg Value.bool (by simp only [twinB, eqT, fk1]; try simp), S1.nil⟩
 refine J.head (.bool false) (congrArg Value.bool fk1) ?_
 refine J.run 1 K65_5 [(10, .pointer (some ⟨b1, 1, none⟩)), (9, .bool false), (1, .pointer (some ⟨bx, 0, none⟩))] w1 (by kernel_rfl) ?_
 refine J.ok (OK.ldBox S1 0 11 3 1 (.int .i64 x.gID) (by kernel_rfl) rfl (by kernel_rfl)) ?_
 refine J.run 1 K65_6 [(12, .pointer (some ⟨bx, 1, none⟩)), (11, .int .i64 x.gID), (9, .bool false)] w1 (by kernel_rfl) ?_
 refine J.ok (OK.ldRo S1 hb1 13 3 1 (.int .i64 f.gID) (by kernel_rfl) (by kernel_rfl)) ?_
 refine J.run 4 K65_7 [(3, .bool (x.gID == f.gID))] w1 (by kernel_rfl) ?_
 refine J.ret Tryd.f65 [.bool (x.gID == f.gID)] Tryd.func65 ⟨by kernel_rfl, trivial⟩ ?_
 refine hR _ _ ?_
 exact ⟨congrArg Value.bool (by simp only [twinB, eqT, fk1]; try simp), S1.nil⟩

theorem hb54 : HasBody Tryd.prog 54 := fun _ _ => by kernel_rfl
def K54_0 := adv 13 [] (bodyOf Tryd.f54)
def K54_1 := adv 5 [] K54_0
def K54_2 := adv 14 [true] K54_1
def K54_3 := adv 1 [] (popK (popK (popK K54_2)))
def K54_4 := adv 6 [true] K54_3
def K54_5 := adv 5 [false] K54_3
def K54_6 := adv 6 [false] K54_1
set_option maxRecDepth 20000 in
set_option maxHeartbeats 20000000 in
theorem indexFr1 (la : Option Addr) (len cap : Nat) (l : List Frm) (g : FuncId) (c1 : Value) (q : Frm → Bool) (w : World) (hI : Recs frmE 5 w la len l) (hlen : len ≤ 9223372036854775807) (hbg : HasBody Tryd.prog g) (hcall : ∀ (i : Nat) (w2 : World), i < l.length → Sep w [] w2 → Ret Tryd.prog g #[.agg #[.string ((l.getD i frm0).gName), .int .i64 ((l.getD i frm0).gID), .int .i64 ((l.getD i frm0).gLength), .bool ((l.getD i frm0).gGuarded), .slice ((l.getD i frm0).gSignals_a) ((l.getD i frm0).gSignals_n) ((l.getD i frm0).gSignals_c)], c1] w2 (fun v w3 => v = .bool (q (l.getD i frm0)) ∧ Sep w2 [] w3)) : Ret Tryd.prog 54 #[.slice la len cap, .func (.func g) #[] #[c1]] w (fun v w' => v = .int .i64 (indexF q l) ∧ Sep w [] w') := by
 have S0 := Sep.refl w
 refine Ret.named fun R hR => ?_
 refine Ret.of_J (N := 19) [(0, .slice la len cap), (1, .func (.func g) #[] #[c1])] Tryd.func54 rfl rfl (Nat.le_of_ble_eq_true (by kernel_rfl)) (by kernel_rfl) ?_
 refine J.run 13 K54_0 [(8, .int .i64 0), (7, .int .i64 (len : Int)), (0, .slice la len cap), (1, .func (.func g) #[] #[c1])] w (by kernel_rfl) ?_
 have L54_1 : ∀ (mm_ : Nat) (i : Int) (w1 : World), (0 ≤ i) → (i ≤ (len : Int)) → (∀ j, j < (i).toNat → q (l.getD j frm0) = false) → Sep w [] w1 → ((len : Int) - i).toNat = mm_ → J Tryd.prog 54 19 R K54_0 [(8, .int .i64 i), (7, .int .i64 (len : Int)), (0, .slice la len cap), (1, .func (.func g) #[] #[c1])] w1 := by
  intro mm1
  induction mm1 using Nat.strongRecOn with
  | _ mm1 ih1 =>
  intro i w1 h0 h1 hq S1 hm1
  refine J.run 5 K54_1 [(9, .bool (decide (i < (len : Int)))), (8, .int .i64 i), (7, .int .i64 (len : Int)), (0, .slice la len cap), (1, .func (.func g) #[] #[c1])] w1 (by kernel_rfl) ?_
  by_cases fk1 : i < (len : Int)
  rotate_left
  ·skip
   refine J.head (.bool false) (congrArg Value.bool (decide_eq_false fk1)) ?_
   refine J.run 6 K54_6 [(4, .int .i64 (-1))] w1 (by kernel_rfl) ?_
   refine J.ret Tryd.f54 [.int .i64 (-1)] Tryd.func54 ⟨by kernel_rfl, trivial⟩ ?_
   refine hR _ _ ?_
   exact ⟨by rw [tup_one, indexF_none frm0 fun j hj => hq j (by have := hI.len_eq; omega)], S1.nil⟩
  refine J.head (.bool true) (congrArg Value.bool (decide_eq_true fk1)) ?_
  refine J.run 14 K54_2 [(13, .int .i64 i), (12, .slice la len cap), (11, .func (.func g) #[] #[c1]), (5, .int .i64 i), (8, .int .i64 i), (7, .int .i64 (len : Int)), (0, .slice la len cap), (1, .func (.func g) #[] #[c1])] w1 (by kernel_rfl) ?_
  obtain ⟨p1, hp1, hc1⟩ := hI.at frm0 (i).toNat (by omega)
  refine J.ok (OK.index 14 22 5 la p1 len (i).toNat i (p1.add ((i).toNat * 5)) (by kernel_rfl) (by kernel_rfl) hp1 (by omega) (by omega) rfl) ?_
  refine J.ok (OK.ldCells 15 34 (p1.add ((i).toNat * 5)) [.string ((l.getD (i).toNat frm0).gName), .int .i64 ((l.getD (i).toNat frm0).gID), .int .i64 ((l.getD (i).toNat frm0).gLength), .bool ((l.getD (i).toNat frm0).gGuarded), .slice ((l.getD (i).toNat frm0).gSignals_a) ((l.getD (i).toNat frm0).gSignals_n) ((l.getD (i).toNat frm0).gSignals_c)] (by kernel_rfl) (by kernel_rfl) (by kernel_rfl) (fun j_ v_ hj_ => S1.cell (hc1 j_ v_ hj_))) ?_
  refine J.callF 16 g #[.agg #[.string ((l.getD (i).toNat frm0).gName), .int .i64 ((l.getD (i).toNat frm0).gID), .int .i64 ((l.getD (i).toNat frm0).gLength), .bool ((l.getD (i).toNat frm0).gGuarded), .slice ((l.getD (i).toNat frm0).gSignals_a) ((l.getD (i).toNat frm0).gSignals_n) ((l.getD (i).toNat frm0).gSignals_c)], c1] hbg (by kernel_rfl) (hcall (i).toNat w1 (by have := hI.len_eq; omega) S1.nil) ?_
  rintro _ w2 ⟨rfl, T1⟩
  have S2 : Sep w [] w2 := S1.trans T1
  clear T1 S1
  refine J.run 1 K54_3 [(16, .bool (q (l.getD (i).toNat frm0))), (5, .int .i64 i), (8, .int .i64 i), (7, .int .i64 (len : Int)), (0, .slice la len cap), (1, .func (.func g) #[] #[c1])] w2 (by kernel_rfl) ?_
  rcases Bool.eq_false_or_eq_true (q (l.getD (i).toNat frm0)) with fk2 | fk2
  ·skip
   refine J.head (.bool true) (congrArg Value.bool fk2) ?_
   refine J.run 6 K54_4 [(4, .int .i64 i)] w2 (by kernel_rfl) ?_
   refine J.ret Tryd.f54 [.int .i64 i] Tryd.func54 ⟨by kernel_rfl, trivial⟩ ?_
   refine hR _ _ ?_
   exact ⟨by rw [tup_one, indexF_some frm0 i.toNat (by have := hI.len_eq; omega) hq fk2, Int.toNat_of_nonneg h0], S2.nil⟩
  refine J.head (.bool false) (congrArg Value.bool fk2) ?_
  refine J.run 5 K54_5 [(18, .int .i64 (IntKind.wrap .i64 (i + 1))), (7, .int .i64 (len : Int)), (0, .slice la len cap), (1, .func (.func g) #[] #[c1])] w2 (by kernel_rfl) ?_
  refine J.head (.int .i64 (i + 1)) (congrArg (Value.int .i64) (IntWalk.i64_in _ (by omega))) ?_
  refine J.run 3 K54_0 [(8, .int .i64 (i + 1)), (7, .int .i64 (len : Int)), (0, .slice la len cap), (1, .func (.func g) #[] #[c1])] w2 (by kernel_rfl) ?_
  refine J.run 0 K54_0 [(8, .int .i64 (i + 1)), (7, .int .i64 (len : Int)), (0, .slice la len cap), (1, .func (.func g) #[] #[c1])] w2 (by kernel_rfl) ?_
  exact ih1 _ (show ((len : Int) - (i + 1)).toNat < mm1 from by omega) (i + 1) w2 (by omega) (by omega) (by intro j hj; by_cases e : j = i.toNat; (subst e; exact fk2); exact hq j (by omega)) S2 rfl
 exact L54_1 _ 0 w (by omega) (by omega) (by intro j hj; simp at hj) S0 rfl

theorem hb25 : HasBody Tryd.prog 25 := fun _ _ => by kernel_rfl
def K25_0 := adv 8 [] (bodyOf Tryd.f25)
def K25_1 := adv 3 [] (popK K25_0)
set_option maxRecDepth 20000 in
set_option maxHeartbeats 20000000 in
theorem containsFr1 (la : Option Addr) (len cap : Nat) (l : List Frm) (g : FuncId) (c1 : Value) (q : Frm → Bool) (w : World) (hI : Recs frmE 5 w la len l) (hlen : len ≤ 9223372036854775807) (hbg : HasBody Tryd.prog g) (hcall : ∀ (i : Nat) (w2 : World), i < l.length → Sep w [] w2 → Ret Tryd.prog g #[.agg #[.string ((l.getD i frm0).gName), .int .i64 ((l.getD i frm0).gID), .int .i64 ((l.getD i frm0).gLength), .bool ((l.getD i frm0).gGuarded), .slice ((l.getD i frm0).gSignals_a) ((l.getD i frm0).gSignals_n) ((l.getD i frm0).gSignals_c)], c1] w2 (fun v w3 => v = .bool (q (l.getD i frm0)) ∧ Sep w2 [] w3)) : Ret Tryd.prog 25 #[.slice la len cap, .func (.func g) #[] #[c1]] w (fun v w' => v = .bool (l.any q) ∧ Sep w [] w') := by
 have S0 := Sep.refl w
 refine Ret.named fun R hR => ?_
 refine Ret.of_J (N := 9) [(0, .slice la len cap), (1, .func (.func g) #[] #[c1])] Tryd.func25 rfl rfl (Nat.le_of_ble_eq_true (by kernel_rfl)) (by kernel_rfl) ?_
 refine J.run 8 K25_0 [(6, .func (.func g) #[] #[c1]), (5, .slice la len cap)] w (by kernel_rfl) ?_
 refine J.callF 7 54 #[.slice la len cap, .func (.func g) #[] #[c1]] hb54 (by kernel_rfl) (indexFr1 la len cap l g c1 q _ (hI.sep S0) (by first | omega | (simp; omega)) hbg (hcall)) ?_
 rintro _ w1 ⟨rfl, T1⟩
 have S1 : Sep w [] w1 := S0.trans T1
 clear T1
 refine J.run 3 K25_1 [(4, .bool (decide ((indexF q l) ≥ 0)))] w1 (by kernel_rfl) ?_
 refine J.ret Tryd.f25 [.bool (decide ((indexF q l) ≥ 0))] Tryd.func25 ⟨by kernel_rfl, trivial⟩ ?_
 refine hR _ _ ?_
 exact ⟨congrArg Value.bool (by first | exact indexF_nonneg), S1.nil⟩

theorem hb43 : HasBody Tryd.prog 43 := fun _ _ => by kernel_rfl
def K43_0 := adv 2 [] (bodyOf Tryd.f43)
def K43_1 := adv 7 [] (popK K43_0)
def K43_2 := adv 3 [] (popK K43_1)
def K43_3 := adv 6 [true] K43_2
def K43_4 := adv 6 [false] K43_2
def K43_5 := adv 5 [] (popK K43_4)
def K43_6 := adv 5 [] K43_5
def K43_7 := adv 7 [true] K43_6
def K43_8 := adv 1 [] (popK (popK (popK K43_7)))
def K43_9 := adv 6 [] (popK K43_8)
def K43_10 := adv 3 [] (popK (popK K43_9))
def K43_11 := adv 4 [false] K43_10
def K43_12 := adv 2 [] (popK (popK K43_11))
def K43_13 := adv 1 [] K43_12
def K43_14 := adv 3 [] (popK (popK K43_13))
def K43_15 := adv 1 [] K43_14
def K43_16 := adv 1 [] (popK K43_15)
def K43_17 := adv 1 [] K43_16
def K43_18 := adv 5 [] (popK K43_17)
def K43_19 := adv 4 [true] K43_18
def K43_20 := adv 3 [] (popK K43_19)
def K43_21 := adv 4 [false] K43_18
def K43_22 := adv 4 [] (popK K43_21)
def K43_23 := adv 4 [true] K43_22
def K43_24 := adv 3 [] (popK K43_23)
def K43_25 := adv 4 [false] K43_22
def K43_26 := adv 1 [] (popK K43_25)
def K43_27 := adv 1 [] (popK K43_26)
def K43_28 := adv 2 [] (popK K43_27)
def K43_29 := adv 4 [true] K43_28
def K43_30 := adv 3 [] (popK K43_29)
def K43_31 := adv 5 [false] K43_28
def K43_32 := adv 11 [] (popK (popK K43_31))
def K43_33 := adv 5 [false] K43_32
def K43_34 := adv 8 [true] K43_32
def K43_35 := adv 11 [false] K43_16
def K43_36 := adv 4 [] (popK K43_35)
def K43_37 := adv 4 [true] K43_36
def K43_38 := adv 3 [] (popK K43_37)
def K43_39 := adv 4 [false] K43_36
def K43_40 := adv 1 [] (popK K43_39)
def K43_41 := adv 1 [] (popK K43_40)
def K43_42 := adv 2 [] (popK K43_41)
def K43_43 := adv 4 [true] K43_42
def K43_44 := adv 3 [] (popK K43_43)
def K43_45 := adv 5 [false] K43_42
def K43_46 := adv 11 [] (popK (popK K43_45))
def K43_47 := adv 5 [false] K43_46
def K43_48 := adv 8 [true] K43_46
def K43_49 := adv 14 [true] K43_14
def K43_50 := adv 3 [] (popK K43_49)
def K43_51 := adv 20 [true] K43_12
def K43_52 := adv 3 [] (popK K43_51)
def K43_53 := adv 4 [true] K43_10
def K43_54 := adv 3 [] (popK K43_53)
def K43_55 := adv 7 [false] K43_6
set_option maxRecDepth 20000 in
set_option maxHeartbeats 20000000 in
theorem fault_any (d : Db) (w : World) (hd : dbQ w d) : Ret Tryd.prog 43 #[.agg #[.slice d.gFrames_a d.gFrames_n d.gFrames_c]] w (fun v w' => v = .tuple #[.string (faultF d).1, .int .i64 (faultF d).2] ∧ Sep w [] w') := by
 have S0 := Sep.refl w
 refine Ret.named fun R hR => ?_
 refine Ret.of_J (N := 75) [(0, .agg #[.slice d.gFrames_a d.gFrames_n d.gFrames_c])] Tryd.func43 rfl rfl (Nat.le_of_ble_eq_true (by kernel_rfl)) (by kernel_rfl) ?_
 obtain ⟨q1, q2, q3, _⟩ := id hd
 have ql1 := q2.len_eq
 refine J.run 2 K43_0 [(0, .agg #[.slice d.gFrames_a d.gFrames_n d.gFrames_c])] w (by kernel_rfl) ?_
 refine J.new S0 1 [.slice d.gFrames_a d.gFrames_n d.gFrames_c] 24 (by kernel_rfl) ?_
 intro b1 w1 S1
 refine J.run 7 K43_1 [(8, .pointer (some ⟨b1, 0, none⟩)), (1, .pointer (some ⟨b1, 0, none⟩))] w1 (by kernel_rfl) ?_
 refine J.ok (OK.ldBox S1 0 9 22 0 (.slice d.gFrames_a d.gFrames_n d.gFrames_c) (by kernel_rfl) rfl (by kernel_rfl)) ?_
 refine J.run 3 K43_2 [(11, .bool (decide ((d.gFrames_n : Int) > 64))), (1, .pointer (some ⟨b1, 0, none⟩))] w1 (by kernel_rfl) ?_
 by_cases fk1 : (d.gFrames_n : Int) > 64
 ·skip
  refine J.head (.bool true) (congrArg Value.bool (decide_eq_true fk1)) ?_
  refine J.run 6 K43_3 [(3, .int .i64 5), (2, .string ByteArray.empty)] w1 (by kernel_rfl) ?_
  refine J.ret Tryd.f43 [.string ByteArray.empty, .int .i64 5] Tryd.func43 ⟨by kernel_rfl, by kernel_rfl, trivial⟩ ?_
  refine hR _ _ ?_
  have r0 := fault_full (d := d) (by omega)
  exact ⟨by rw [tup_two, r0], S1.nil⟩
 refine J.head (.bool false) (congrArg Value.bool (decide_eq_false fk1)) ?_
 refine J.run 6 K43_4 [(12, .pointer (some ⟨b1, 0, none⟩)), (1, .pointer (some ⟨b1, 0, none⟩))] w1 (by kernel_rfl) ?_
 refine J.ok (OK.ldBox S1 0 13 22 0 (.slice d.gFrames_a d.gFrames_n d.gFrames_c) (by kernel_rfl) rfl (by kernel_rfl)) ?_
 refine J.run 5 K43_5 [(15, .int .i64 0), (14, .int .i64 (d.gFrames_n : Int)), (13, .slice d.gFrames_a d.gFrames_n d.gFrames_c), (1, .pointer (some ⟨b1, 0, none⟩))] w1 (by kernel_rfl) ?_
 have L43_1 : ∀ (mm_ : Nat) (i : Int) (w2 : World), (0 ≤ i) → (i ≤ (d.gFrames_n : Int)) → (∀ j, j < (i).toNat → (frmR d j).2 = 0) → Sep w [box b1 [.slice d.gFrames_a d.gFrames_n d.gFrames_c] 24] w2 → ((d.gFrames_n : Int) - i).toNat = mm_ → J Tryd.prog 43 75 R K43_5 [(15, .int .i64 i), (14, .int .i64 (d.gFrames_n : Int)), (13, .slice d.gFrames_a d.gFrames_n d.gFrames_c), (1, .pointer (some ⟨b1, 0, none⟩))] w2 := by
  intro mm1
  induction mm1 using Nat.strongRecOn with
  | _ mm1 ih1 =>
  intro i w2 h0 h1 hq S2 hm1
  refine J.run 5 K43_6 [(16, .bool (decide (i < (d.gFrames_n : Int)))), (15, .int .i64 i), (14, .int .i64 (d.gFrames_n : Int)), (13, .slice d.gFrames_a d.gFrames_n d.gFrames_c), (1, .pointer (some ⟨b1, 0, none⟩))] w2 (by kernel_rfl) ?_
  by_cases fk2 : i < (d.gFrames_n : Int)
  rotate_left
  ·skip
   refine J.head (.bool false) (congrArg Value.bool (decide_eq_false fk2)) ?_
   refine J.run 7 K43_55 [(3, .int .i64 0), (2, .string ByteArray.empty)] w2 (by kernel_rfl) ?_
   refine J.ret Tryd.f43 [.string ByteArray.empty, .int .i64 0] Tryd.func43 ⟨by kernel_rfl, by kernel_rfl, trivial⟩ ?_
   refine hR _ _ ?_
   have r0 := fault_none (d := d) (by omega) fun j hj => hq j (by omega)
   exact ⟨by rw [tup_two, r0], S2.nil⟩
  refine J.head (.bool true) (congrArg Value.bool (decide_eq_true fk2)) ?_
  refine J.run 7 K43_7 [(17, .int .i64 i), (15, .int .i64 i), (14, .int .i64 (d.gFrames_n : Int)), (13, .slice d.gFrames_a d.gFrames_n d.gFrames_c), (1, .pointer (some ⟨b1, 0, none⟩))] w2 (by kernel_rfl) ?_
  obtain ⟨p1, hp1, hc1⟩ := q2.at frm0 (i).toNat (by omega)
  have hel1 := getD_Q q3 frm0 (n := (i).toNat) (by have := q2.len_eq; omega)
  obtain ⟨q4, q5, q6, q7, q8, q9, _⟩ := id hel1
  have ql2 := q8.len_eq
  refine J.ok (OK.index 18 22 5 d.gFrames_a p1 d.gFrames_n (i).toNat i (p1.add ((i).toNat * 5)) (by kernel_rfl) (by kernel_rfl) hp1 (by omega) (by omega) rfl) ?_
  refine J.ok (OK.ldCells 19 34 (p1.add ((i).toNat * 5)) [.string ((d.gFrames_l.getD (i).toNat frm0).gName), .int .i64 ((d.gFrames_l.getD (i).toNat frm0).gID), .int .i64 ((d.gFrames_l.getD (i).toNat frm0).gLength), .bool ((d.gFrames_l.getD (i).toNat frm0).gGuarded), .slice ((d.gFrames_l.getD (i).toNat frm0).gSignals_a) ((d.gFrames_l.getD (i).toNat frm0).gSignals_n) ((d.gFrames_l.getD (i).toNat frm0).gSignals_c)] (by kernel_rfl) (by kernel_rfl) (by kernel_rfl) (fun j_ v_ hj_ => S2.cell (hc1 j_ v_ hj_))) ?_
  refine J.new S2 5 [.string ByteArray.empty, .int .i64 0, .int .i64 0, .bool false, .slice none 0 0] 34 (by kernel_rfl) ?_
  intro b2 w3 S3
  refine J.run 1 K43_8 [(4, .int .i64 i), (5, .pointer (some ⟨b2, 0, none⟩)), (19, .agg #[.string ((d.gFrames_l.getD (i).toNat frm0).gName), .int .i64 ((d.gFrames_l.getD (i).toNat frm0).gID), .int .i64 ((d.gFrames_l.getD (i).toNat frm0).gLength), .bool ((d.gFrames_l.getD (i).toNat frm0).gGuarded), .slice ((d.gFrames_l.getD (i).toNat frm0).gSignals_a) ((d.gFrames_l.getD (i).toNat frm0).gSignals_n) ((d.gFrames_l.getD (i).toNat frm0).gSignals_c)]), (15, .int .i64 i), (14, .int .i64 (d.gFrames_n : Int)), (13, .slice d.gFrames_a d.gFrames_n d.gFrames_c), (1, .pointer (some ⟨b1, 0, none⟩))] w3 (by kernel_rfl) ?_
  refine J.stBox S3 0 34 0 (.agg #[.string ((d.gFrames_l.getD (i).toNat frm0).gName), .int .i64 ((d.gFrames_l.getD (i).toNat frm0).gID), .int .i64 ((d.gFrames_l.getD (i).toNat frm0).gLength), .bool ((d.gFrames_l.getD (i).toNat frm0).gGuarded), .slice ((d.gFrames_l.getD (i).toNat frm0).gSignals_a) ((d.gFrames_l.getD (i).toNat frm0).gSignals_n) ((d.gFrames_l.getD (i).toNat frm0).gSignals_c)]) [.string ((d.gFrames_l.getD (i).toNat frm0).gName), .int .i64 ((d.gFrames_l.getD (i).toNat frm0).gID), .int .i64 ((d.gFrames_l.getD (i).toNat frm0).gLength), .bool ((d.gFrames_l.getD (i).toNat frm0).gGuarded), .slice ((d.gFrames_l.getD (i).toNat frm0).gSignals_a) ((d.gFrames_l.getD (i).toNat frm0).gSignals_n) ((d.gFrames_l.getD (i).toNat frm0).gSignals_c)] [box b2 [.string ((d.gFrames_l.getD (i).toNat frm0).gName), .int .i64 ((d.gFrames_l.getD (i).toNat frm0).gID), .int .i64 ((d.gFrames_l.getD (i).toNat frm0).gLength), .bool ((d.gFrames_l.getD (i).toNat frm0).gGuarded), .slice ((d.gFrames_l.getD (i).toNat frm0).gSignals_a) ((d.gFrames_l.getD (i).toNat frm0).gSignals_n) ((d.gFrames_l.getD (i).toNat frm0).gSignals_c)] 34, box b1 [.slice d.gFrames_a d.gFrames_n d.gFrames_c] 24] (by kernel_rfl) rfl (by kernel_rfl) (by kernel_rfl) rfl ?_
  intro w4 S4
  refine J.run 6 K43_9 [(21, .pointer (some ⟨b2, 0, none⟩)), (4, .int .i64 i), (5, .pointer (some ⟨b2, 0, none⟩)), (15, .int .i64 i), (14, .int .i64 (d.gFrames_n : Int)), (13, .slice d.gFrames_a d.gFrames_n d.gFrames_c), (1, .pointer (some ⟨b1, 0, none⟩))] w4 (by kernel_rfl) ?_
  refine J.ok (OK.ldBox S4 0 22 9 0 (.string ((d.gFrames_l.getD (i).toNat frm0).gName)) (by kernel_rfl) rfl (by kernel_rfl)) ?_
  refine J.callF 23 64 #[.string ((d.gFrames_l.getD (i).toNat frm0).gName)] hb64 (by kernel_rfl) (name_any ((d.gFrames_l.getD (i).toNat frm0).gName) _ (by omega)) ?_
  rintro _ w5 ⟨rfl, T1⟩
  have S5 : Sep w [box b2 [.string ((d.gFrames_l.getD (i).toNat frm0).gName), .int .i64 ((d.gFrames_l.getD (i).toNat frm0).gID), .int .i64 ((d.gFrames_l.getD (i).toNat frm0).gLength), .bool ((d.gFrames_l.getD (i).toNat frm0).gGuarded), .slice ((d.gFrames_l.getD (i).toNat frm0).gSignals_a) ((d.gFrames_l.getD (i).toNat frm0).gSignals_n) ((d.gFrames_l.getD (i).toNat frm0).gSignals_c)] 34, box b1 [.slice d.gFrames_a d.gFrames_n d.gFrames_c] 24] w5 := S4.trans T1
  clear T1 S4
  refine J.run 3 K43_10 [(20, .bool (!(nameB ((d.gFrames_l.getD (i).toNat frm0).gName)))), (4, .int .i64 i), (5, .pointer (some ⟨b2, 0, none⟩)), (15, .int .i64 i), (14, .int .i64 (d.gFrames_n : Int)), (13, .slice d.gFrames_a d.gFrames_n d.gFrames_c), (1, .pointer (some ⟨b1, 0, none⟩))] w5 (by kernel_rfl) ?_
  rcases Bool.eq_false_or_eq_true (nameB ((d.gFrames_l.getD (i).toNat frm0).gName)) with fk3 | fk3
  rotate_left
  ·skip
   refine J.head (.bool true) (congrArg Value.bool (by rw [fk3]; rfl)) ?_
   refine J.run 4 K43_53 [(25, .pointer (some ⟨b2, 0, none⟩))] w5 (by kernel_rfl) ?_
   refine J.ok (OK.ldBox S5 0 26 9 0 (.string ((d.gFrames_l.getD (i).toNat frm0).gName)) (by kernel_rfl) rfl (by kernel_rfl)) ?_
   refine J.run 3 K43_54 [(3, .int .i64 1), (2, .string ((d.gFrames_l.getD (i).toNat frm0).gName))] w5 (by kernel_rfl) ?_
   refine J.ret Tryd.f43 [.string ((d.gFrames_l.getD (i).toNat frm0).gName), .int .i64 1] Tryd.func43 ⟨by kernel_rfl, by kernel_rfl, trivial⟩ ?_
   refine hR _ _ ?_
   have r0 := fault_at (d := d) (by omega) (by omega) hq (frm_head (hd1 fk3) (by decide)) (show (1 : Int) ≠ 0 by decide)
   exact ⟨by rw [tup_two, r0], S5.nil⟩
  refine J.head (.bool false) (congrArg Value.bool (by rw [fk3]; rfl)) ?_
  refine J.run 4 K43_11 [(28, .pointer (some ⟨b2, 1, none⟩)), (4, .int .i64 i), (5, .pointer (some ⟨b2, 0, none⟩)), (15, .int .i64 i), (14, .int .i64 (d.gFrames_n : Int)), (13, .slice d.gFrames_a d.gFrames_n d.gFrames_c), (1, .pointer (some ⟨b1, 0, none⟩))] w5 (by kernel_rfl) ?_
  refine J.ok (OK.ldBox S5 0 29 3 1 (.int .i64 ((d.gFrames_l.getD (i).toNat frm0).gID)) (by kernel_rfl) rfl (by kernel_rfl)) ?_
  refine J.callF 30 62 #[.int .i64 ((d.gFrames_l.getD (i).toNat frm0).gID), .int .i64 0, .int .i64 2047] hb62 (by kernel_rfl) (in_any ((d.gFrames_l.getD (i).toNat frm0).gID) 0 2047 _) ?_
  rintro _ w6 ⟨rfl, T2⟩
  have S6 : Sep w [box b2 [.string ((d.gFrames_l.getD (i).toNat frm0).gName), .int .i64 ((d.gFrames_l.getD (i).toNat frm0).gID), .int .i64 ((d.gFrames_l.getD (i).toNat frm0).gLength), .bool ((d.gFrames_l.getD (i).toNat frm0).gGuarded), .slice ((d.gFrames_l.getD (i).toNat frm0).gSignals_a) ((d.gFrames_l.getD (i).toNat frm0).gSignals_n) ((d.gFrames_l.getD (i).toNat frm0).gSignals_c)] 34, box b1 [.slice d.gFrames_a d.gFrames_n d.gFrames_c] 24] w6 := S5.trans T2
  clear T2 S5
  refine J.run 2 K43_12 [(32, .bool (!(inB ((d.gFrames_l.getD (i).toNat frm0).gID) 0 2047))), (4, .int .i64 i), (5, .pointer (some ⟨b2, 0, none⟩)), (15, .int .i64 i), (14, .int .i64 (d.gFrames_n : Int)), (13, .slice d.gFrames_a d.gFrames_n d.gFrames_c), (1, .pointer (some ⟨b1, 0, none⟩))] w6 (by kernel_rfl) ?_
  rcases Bool.eq_false_or_eq_true (inB ((d.gFrames_l.getD (i).toNat frm0).gID) 0 2047) with fk4 | fk4
  rotate_left
  ·skip
   refine J.head (.bool true) (congrArg Value.bool (by rw [fk4]; rfl)) ?_
   have fb4 := inB_not fk4
   refine J.run 20 K43_51 [(47, .pointer (some ⟨b2, 0, none⟩))] w6 (by kernel_rfl) ?_
   refine J.ok (OK.ldBox S6 0 48 9 0 (.string ((d.gFrames_l.getD (i).toNat frm0).gName)) (by kernel_rfl) rfl (by kernel_rfl)) ?_
   refine J.run 3 K43_52 [(3, .int .i64 2), (2, .string ((d.gFrames_l.getD (i).toNat frm0).gName))] w6 (by kernel_rfl) ?_
   refine J.ret Tryd.f43 [.string ((d.gFrames_l.getD (i).toNat frm0).gName), .int .i64 2] Tryd.func43 ⟨by kernel_rfl, by kernel_rfl, trivial⟩ ?_
   refine hR _ _ ?_
   have r0 := fault_at (d := d) (by omega) (by omega) hq (frm_head (hd2 fk3 (bad_yes (by first | omega | exact .inr (.inr ⟨rfl, by omega⟩)))) (by decide)) (show (2 : Int) ≠ 0 by decide)
   exact ⟨by rw [tup_two, r0], S6.nil⟩
  refine J.head (.bool false) (congrArg Value.bool (by rw [fk4]; rfl)) ?_
  have fb1 := inB_iff.1 fk4
  refine J.run 1 K43_13 [(33, .pointer (some ⟨b2, 2, none⟩)), (32, .bool false), (4, .int .i64 i), (5, .pointer (some ⟨b2, 0, none⟩)), (15, .int .i64 i), (14, .int .i64 (d.gFrames_n : Int)), (13, .slice d.gFrames_a d.gFrames_n d.gFrames_c), (1, .pointer (some ⟨b1, 0, none⟩))] w6 (by kernel_rfl) ?_
  refine J.ok (OK.ldBox S6 0 34 3 2 (.int .i64 ((d.gFrames_l.getD (i).toNat frm0).gLength)) (by kernel_rfl) rfl (by kernel_rfl)) ?_
  refine J.callF 35 62 #[.int .i64 ((d.gFrames_l.getD (i).toNat frm0).gLength), .int .i64 1, .int .i64 8] hb62 (by kernel_rfl) (in_any ((d.gFrames_l.getD (i).toNat frm0).gLength) 1 8 _) ?_
  rintro _ w7 ⟨rfl, T3⟩
  have S7 : Sep w [box b2 [.string ((d.gFrames_l.getD (i).toNat frm0).gName), .int .i64 ((d.gFrames_l.getD (i).toNat frm0).gID), .int .i64 ((d.gFrames_l.getD (i).toNat frm0).gLength), .bool ((d.gFrames_l.getD (i).toNat frm0).gGuarded), .slice ((d.gFrames_l.getD (i).toNat frm0).gSignals_a) ((d.gFrames_l.getD (i).toNat frm0).gSignals_n) ((d.gFrames_l.getD (i).toNat frm0).gSignals_c)] 34, box b1 [.slice d.gFrames_a d.gFrames_n d.gFrames_c] 24] w7 := S6.trans T3
  clear T3 S6
  refine J.run 3 K43_14 [(38, .bool (!(inB ((d.gFrames_l.getD (i).toNat frm0).gLength) 1 8))), (4, .int .i64 i), (5, .pointer (some ⟨b2, 0, none⟩)), (15, .int .i64 i), (14, .int .i64 (d.gFrames_n : Int)), (13, .slice d.gFrames_a d.gFrames_n d.gFrames_c), (1, .pointer (some ⟨b1, 0, none⟩))] w7 (by kernel_rfl) ?_
  rcases Bool.eq_false_or_eq_true (inB ((d.gFrames_l.getD (i).toNat frm0).gLength) 1 8) with fk5 | fk5
  rotate_left
  ·skip
   refine J.head (.bool true) (congrArg Value.bool (by rw [fk5]; rfl)) ?_
   have fb3 := inB_not fk5
   refine J.run 14 K43_49 [(47, .pointer (some ⟨b2, 0, none⟩))] w7 (by kernel_rfl) ?_
   refine J.ok (OK.ldBox S7 0 48 9 0 (.string ((d.gFrames_l.getD (i).toNat frm0).gName)) (by kernel_rfl) rfl (by kernel_rfl)) ?_
   refine J.run 3 K43_50 [(3, .int .i64 2), (2, .string ((d.gFrames_l.getD (i).toNat frm0).gName))] w7 (by kernel_rfl) ?_
   refine J.ret Tryd.f43 [.string ((d.gFrames_l.getD (i).toNat frm0).gName), .int .i64 2] Tryd.func43 ⟨by kernel_rfl, by kernel_rfl, trivial⟩ ?_
   refine hR _ _ ?_
   have r0 := fault_at (d := d) (by omega) (by omega) hq (frm_head (hd2 fk3 (bad_yes (by first | omega | exact .inr (.inr ⟨rfl, by omega⟩)))) (by decide)) (show (2 : Int) ≠ 0 by decide)
   exact ⟨by rw [tup_two, r0], S7.nil⟩
  refine J.head (.bool false) (congrArg Value.bool (by rw [fk5]; rfl)) ?_
  have fb2 := inB_iff.1 fk5
  refine J.run 1 K43_15 [(39, .pointer (some ⟨b2, 3, none⟩)), (38, .bool false), (4, .int .i64 i), (5, .pointer (some ⟨b2, 0, none⟩)), (15, .int .i64 i), (14, .int .i64 (d.gFrames_n : Int)), (13, .slice d.gFrames_a d.gFrames_n d.gFrames_c), (1, .pointer (some ⟨b1, 0, none⟩))] w7 (by kernel_rfl) ?_
  refine J.ok (OK.ldBox S7 0 40 4 3 (.bool ((d.gFrames_l.getD (i).toNat frm0).gGuarded)) (by kernel_rfl) rfl (by kernel_rfl)) ?_
  refine J.run 1 K43_16 [(41, .bool ((d.gFrames_l.getD (i).toNat frm0).gGuarded)), (38, .bool false), (4, .int .i64 i), (5, .pointer (some ⟨b2, 0, none⟩)), (15, .int .i64 i), (14, .int .i64 (d.gFrames_n : Int)), (13, .slice d.gFrames_a d.gFrames_n d.gFrames_c), (1, .pointer (some ⟨b1, 0, none⟩))] w7 (by kernel_rfl) ?_
  rcases Bool.eq_false_or_eq_true ((d.gFrames_l.getD (i).toNat frm0).gGuarded) with fk6 | fk6
  rotate_left
  ·skip
   refine J.head (.bool false) (congrArg Value.bool fk6) ?_
   refine J.run 11 K43_35 [(50, .pointer (some ⟨b2, 4, none⟩)), (4, .int .i64 i), (5, .pointer (some ⟨b2, 0, none⟩)), (15, .int .i64 i), (14, .int .i64 (d.gFrames_n : Int)), (13, .slice d.gFrames_a d.gFrames_n d.gFrames_c), (1, .pointer (some ⟨b1, 0, none⟩))] w7 (by kernel_rfl) ?_
   refine J.ok (OK.ldBox S7 0 51 32 4 (.slice ((d.gFrames_l.getD (i).toNat frm0).gSignals_a) ((d.gFrames_l.getD (i).toNat frm0).gSignals_n) ((d.gFrames_l.getD (i).toNat frm0).gSignals_c)) (by kernel_rfl) rfl (by kernel_rfl)) ?_
   refine J.run 4 K43_36 [(49, .bool (decide (((d.gFrames_l.getD (i).toNat frm0).gSignals_n : Int) > 16))), (4, .int .i64 i), (5, .pointer (some ⟨b2, 0, none⟩)), (15, .int .i64 i), (14, .int .i64 (d.gFrames_n : Int)), (13, .slice d.gFrames_a d.gFrames_n d.gFrames_c), (1, .pointer (some ⟨b1, 0, none⟩))] w7 (by kernel_rfl) ?_
   by_cases fk11 : ((d.gFrames_l.getD (i).toNat frm0).gSignals_n : Int) > 16
   ·skip
    refine J.head (.bool true) (congrArg Value.bool (decide_eq_true fk11)) ?_
    refine J.run 4 K43_37 [(54, .pointer (some ⟨b2, 0, none⟩))] w7 (by kernel_rfl) ?_
    refine J.ok (OK.ldBox S7 0 55 9 0 (.string ((d.gFrames_l.getD (i).toNat frm0).gName)) (by kernel_rfl) rfl (by kernel_rfl)) ?_
    refine J.run 3 K43_38 [(3, .int .i64 5), (2, .string ((d.gFrames_l.getD (i).toNat frm0).gName))] w7 (by kernel_rfl) ?_
    refine J.ret Tryd.f43 [.string ((d.gFrames_l.getD (i).toNat frm0).gName), .int .i64 5] Tryd.func43 ⟨by kernel_rfl, by kernel_rfl, trivial⟩ ?_
    refine hR _ _ ?_
    have r0 := fault_at (d := d) (by omega) (by omega) hq (frm_head (hd5 fk3 (bad_no (by omega) (by omega) (.inl fk6)) (by omega)) (by decide)) (show (5 : Int) ≠ 0 by decide)
    exact ⟨by rw [tup_two, r0], S7.nil⟩
   refine J.head (.bool false) (congrArg Value.bool (decide_eq_false fk11)) ?_
   refine J.run 4 K43_39 [(57, .pointer (some ⟨b1, 0, none⟩)), (4, .int .i64 i), (5, .pointer (some ⟨b2, 0, none⟩)), (15, .int .i64 i), (14, .int .i64 (d.gFrames_n : Int)), (13, .slice d.gFrames_a d.gFrames_n d.gFrames_c), (1, .pointer (some ⟨b1, 0, none⟩))] w7 (by kernel_rfl) ?_
   refine J.ok (OK.ldBox S7 1 58 22 0 (.slice d.gFrames_a d.gFrames_n d.gFrames_c) (by kernel_rfl) rfl (by kernel_rfl)) ?_
   refine J.run 1 K43_40 [(59, .int .i64 i), (58, .slice d.gFrames_a d.gFrames_n d.gFrames_c), (5, .pointer (some ⟨b2, 0, none⟩)), (15, .int .i64 i), (14, .int .i64 (d.gFrames_n : Int)), (13, .slice d.gFrames_a d.gFrames_n d.gFrames_c), (1, .pointer (some ⟨b1, 0, none⟩))] w7 (by kernel_rfl) ?_
   refine J.ok (OK.slice 60 22 5 d.gFrames_a d.gFrames_n d.gFrames_c none (some (.int .i64 i)) 0 ((i).toNat) (by kernel_rfl) (by kernel_rfl) (.inl ⟨rfl, rfl⟩) (.inr ⟨_, _, rfl, by omega⟩) (by first | omega | (simp; omega)) (by first | omega | (simp; omega))) ?_
   refine J.head (.slice d.gFrames_a ((i).toNat) d.gFrames_c) (by rw [subA_zero]; try rfl) ?_
   refine J.run 1 K43_41 [(61, .func (.func 65) #[] #[.pointer (some ⟨b2, 0, none⟩)]), (60, .slice d.gFrames_a ((i).toNat) d.gFrames_c), (5, .pointer (some ⟨b2, 0, none⟩)), (15, .int .i64 i), (14, .int .i64 (d.gFrames_n : Int)), (13, .slice d.gFrames_a d.gFrames_n d.gFrames_c), (1, .pointer (some ⟨b1, 0, none⟩))] w7 (by kernel_rfl) ?_
   refine J.callF 62 25 #[.slice d.gFrames_a ((i).toNat) d.gFrames_c, .func (.func 65) #[] #[.pointer (some ⟨b2, 0, none⟩)]] hb25 (by kernel_rfl) (containsFr1 d.gFrames_a ((i).toNat) d.gFrames_c (d.gFrames_l.take ((i).toNat)) 65 (.pointer (some ⟨b2, 0, none⟩)) (twinB (d.gFrames_l.getD (i).toNat frm0)) _ ((q2.sep S7).take ((i).toNat) (by first | omega | (simp; omega))) (by first | omega | (simp; omega)) hb65 (fun i_ w_ hi_ S_ => twin_any (d.gFrames_l.getD (i).toNat frm0) _ b2 w_ (box_keep (S7.nth 0 rfl) S_))) ?_
   rintro _ w10 ⟨rfl, T6⟩
   have S11 : Sep w [box b2 [.string ((d.gFrames_l.getD (i).toNat frm0).gName), .int .i64 ((d.gFrames_l.getD (i).toNat frm0).gID), .int .i64 ((d.gFrames_l.getD (i).toNat frm0).gLength), .bool ((d.gFrames_l.getD (i).toNat frm0).gGuarded), .slice ((d.gFrames_l.getD (i).toNat frm0).gSignals_a) ((d.gFrames_l.getD (i).toNat frm0).gSignals_n) ((d.gFrames_l.getD (i).toNat frm0).gSignals_c)] 34, box b1 [.slice d.gFrames_a d.gFrames_n d.gFrames_c] 24] w10 := S7.trans T6
   clear T6 S7
   refine J.run 2 K43_42 [(56, .bool (List.any (d.gFrames_l.take ((i).toNat)) (twinB (d.gFrames_l.getD (i).toNat frm0)))), (5, .pointer (some ⟨b2, 0, none⟩)), (15, .int .i64 i), (14, .int .i64 (d.gFrames_n : Int)), (13, .slice d.gFrames_a d.gFrames_n d.gFrames_c), (1, .pointer (some ⟨b1, 0, none⟩))] w10 (by kernel_rfl) ?_
   rcases Bool.eq_false_or_eq_true (List.any (d.gFrames_l.take ((i).toNat)) (twinB (d.gFrames_l.getD (i).toNat frm0))) with fk12 | fk12
   ·skip
    refine J.head (.bool true) (congrArg Value.bool fk12) ?_
    refine J.run 4 K43_43 [(63, .pointer (some ⟨b2, 0, none⟩))] w10 (by kernel_rfl) ?_
    refine J.ok (OK.ldBox S11 0 64 9 0 (.string ((d.gFrames_l.getD (i).toNat frm0).gName)) (by kernel_rfl) rfl (by kernel_rfl)) ?_
    refine J.run 3 K43_44 [(3, .int .i64 8), (2, .string ((d.gFrames_l.getD (i).toNat frm0).gName))] w10 (by kernel_rfl) ?_
    refine J.ret Tryd.f43 [.string ((d.gFrames_l.getD (i).toNat frm0).gName), .int .i64 8] Tryd.func43 ⟨by kernel_rfl, by kernel_rfl, trivial⟩ ?_
    refine hR _ _ ?_
    have r0 := fault_at (d := d) (by omega) (by omega) hq (frm_head (hd8 fk3 (bad_no (by omega) (by omega) (.inl fk6)) (by omega) fk12) (by decide)) (show (8 : Int) ≠ 0 by decide)
    exact ⟨by rw [tup_two, r0], S11.nil⟩
   refine J.head (.bool false) (congrArg Value.bool fk12) ?_
   refine J.run 5 K43_45 [(5, .pointer (some ⟨b2, 0, none⟩)), (15, .int .i64 i), (14, .int .i64 (d.gFrames_n : Int)), (13, .slice d.gFrames_a d.gFrames_n d.gFrames_c), (1, .pointer (some ⟨b1, 0, none⟩))] w10 (by kernel_rfl) ?_
   refine J.ok (OK.ldBox S11 0 66 34 0 (.agg #[.string ((d.gFrames_l.getD (i).toNat frm0).gName), .int .i64 ((d.gFrames_l.getD (i).toNat frm0).gID), .int .i64 ((d.gFrames_l.getD (i).toNat frm0).gLength), .bool ((d.gFrames_l.getD (i).toNat frm0).gGuarded), .slice ((d.gFrames_l.getD (i).toNat frm0).gSignals_a) ((d.gFrames_l.getD (i).toNat frm0).gSignals_n) ((d.gFrames_l.getD (i).toNat frm0).gSignals_c)]) (by kernel_rfl) rfl (by kernel_rfl)) ?_
   refine J.callF 67 66 #[.agg #[.string ((d.gFrames_l.getD (i).toNat frm0).gName), .int .i64 ((d.gFrames_l.getD (i).toNat frm0).gID), .int .i64 ((d.gFrames_l.getD (i).toNat frm0).gLength), .bool ((d.gFrames_l.getD (i).toNat frm0).gGuarded), .slice ((d.gFrames_l.getD (i).toNat frm0).gSignals_a) ((d.gFrames_l.getD (i).toNat frm0).gSignals_n) ((d.gFrames_l.getD (i).toNat frm0).gSignals_c)]] hb66 (by kernel_rfl) (signals_any (d.gFrames_l.getD (i).toNat frm0) _ (frmQ_sep hel1 S11) (by omega)) ?_
   rintro _ w11 ⟨rfl, T7⟩
   have S12 : Sep w [box b2 [.string ((d.gFrames_l.getD (i).toNat frm0).gName), .int .i64 ((d.gFrames_l.getD (i).toNat frm0).gID), .int .i64 ((d.gFrames_l.getD (i).toNat frm0).gLength), .bool ((d.gFrames_l.getD (i).toNat frm0).gGuarded), .slice ((d.gFrames_l.getD (i).toNat frm0).gSignals_a) ((d.gFrames_l.getD (i).toNat frm0).gSignals_n) ((d.gFrames_l.getD (i).toNat frm0).gSignals_c)] 34, box b1 [.slice d.gFrames_a d.gFrames_n d.gFrames_c] 24] w11 := S11.trans T7
   clear T7 S11
   refine J.run 11 K43_46 [(71, .bool (((sigsF (d.gFrames_l.getD (i).toNat frm0)).2) != 0)), (7, .int .i64 ((sigsF (d.gFrames_l.getD (i).toNat frm0)).2)), (6, .string ((sigsF (d.gFrames_l.getD (i).toNat frm0)).1)), (15, .int .i64 i), (14, .int .i64 (d.gFrames_n : Int)), (13, .slice d.gFrames_a d.gFrames_n d.gFrames_c), (1, .pointer (some ⟨b1, 0, none⟩))] w11 (by kernel_rfl) ?_
   by_cases fk13 : ((sigsF (d.gFrames_l.getD (i).toNat frm0)).2) = 0
   rotate_left
   ·skip
    refine J.head (.bool true) (congrArg Value.bool (bne_iff_ne.2 fk13)) ?_
    refine J.run 8 K43_48 [(3, .int .i64 ((sigsF (d.gFrames_l.getD (i).toNat frm0)).2)), (2, .string ((sigsF (d.gFrames_l.getD (i).toNat frm0)).1))] w11 (by kernel_rfl) ?_
    refine J.ret Tryd.f43 [.string ((sigsF (d.gFrames_l.getD (i).toNat frm0)).1), .int .i64 ((sigsF (d.gFrames_l.getD (i).toNat frm0)).2)] Tryd.func43 ⟨by kernel_rfl, by kernel_rfl, trivial⟩ ?_
    refine hR _ _ ?_
    have r0 := fault_at (d := d) (by omega) (by omega) hq (frm_sig (hd0 fk3 (bad_no (by omega) (by omega) (.inl fk6)) (by omega) fk12)) fk13
    exact ⟨by rw [tup_two, r0], S12.nil⟩
   refine J.head (.bool false) (congrArg Value.bool (bne_eq_false_iff_eq.2 fk13)) ?_
   refine J.run 5 K43_47 [(74, .int .i64 (IntKind.wrap .i64 (i + 1))), (14, .int .i64 (d.gFrames_n : Int)), (13, .slice d.gFrames_a d.gFrames_n d.gFrames_c), (1, .pointer (some ⟨b1, 0, none⟩))] w11 (by kernel_rfl) ?_
   refine J.head (.int .i64 (i + 1)) (congrArg (Value.int .i64) (IntWalk.i64_in _ (by omega))) ?_
   refine J.run 3 K43_5 [(15, .int .i64 (i + 1)), (14, .int .i64 (d.gFrames_n : Int)), (13, .slice d.gFrames_a d.gFrames_n d.gFrames_c), (1, .pointer (some ⟨b1, 0, none⟩))] w11 (by kernel_rfl) ?_
   have S13 : Sep w [box b1 [.slice d.gFrames_a d.gFrames_n d.gFrames_c] 24] w11 := S12.erase 0
   clear S12
   refine J.run 0 K43_5 [(15, .int .i64 (i + 1)), (14, .int .i64 (d.gFrames_n : Int)), (13, .slice d.gFrames_a d.gFrames_n d.gFrames_c), (1, .pointer (some ⟨b1, 0, none⟩))] w11 (by kernel_rfl) ?_
   exact ih1 _ (show ((d.gFrames_n : Int) - (i + 1)).toNat < mm1 from by omega) (i + 1) w11 (by omega) (by omega) (frm_step h0 hq (by rw [frm_sig (hd0 fk3 (bad_no (by omega) (by omega) (.inl fk6)) (by omega) fk12)]; exact fk13)) S13 rfl
  refine J.head (.bool true) (congrArg Value.bool fk6) ?_
  refine J.run 1 K43_17 [(42, .pointer (some ⟨b2, 2, none⟩)), (41, .bool true), (38, .bool false), (4, .int .i64 i), (5, .pointer (some ⟨b2, 0, none⟩)), (15, .int .i64 i), (14, .int .i64 (d.gFrames_n : Int)), (13, .slice d.gFrames_a d.gFrames_n d.gFrames_c), (1, .pointer (some ⟨b1, 0, none⟩))] w7 (by kernel_rfl) ?_
  refine J.ok (OK.ldBox S7 0 43 3 2 (.int .i64 ((d.gFrames_l.getD (i).toNat frm0).gLength)) (by kernel_rfl) rfl (by kernel_rfl)) ?_
  refine J.run 5 K43_18 [(27, .bool (decide (((d.gFrames_l.getD (i).toNat frm0).gLength) < 2))), (4, .int .i64 i), (5, .pointer (some ⟨b2, 0, none⟩)), (15, .int .i64 i), (14, .int .i64 (d.gFrames_n : Int)), (13, .slice d.gFrames_a d.gFrames_n d.gFrames_c), (1, .pointer (some ⟨b1, 0, none⟩))] w7 (by kernel_rfl) ?_
  by_cases fk7 : ((d.gFrames_l.getD (i).toNat frm0).gLength) < 2
  ·skip
   refine J.head (.bool true) (congrArg Value.bool (decide_eq_true fk7)) ?_
   refine J.run 4 K43_19 [(47, .pointer (some ⟨b2, 0, none⟩))] w7 (by kernel_rfl) ?_
   refine J.ok (OK.ldBox S7 0 48 9 0 (.string ((d.gFrames_l.getD (i).toNat frm0).gName)) (by kernel_rfl) rfl (by kernel_rfl)) ?_
   refine J.run 3 K43_20 [(3, .int .i64 2), (2, .string ((d.gFrames_l.getD (i).toNat frm0).gName))] w7 (by kernel_rfl) ?_
   refine J.ret Tryd.f43 [.string ((d.gFrames_l.getD (i).toNat frm0).gName), .int .i64 2] Tryd.func43 ⟨by kernel_rfl, by kernel_rfl, trivial⟩ ?_
   refine hR _ _ ?_
   have r0 := fault_at (d := d) (by omega) (by omega) hq (frm_head (hd2 fk3 (bad_yes (by first | omega | exact .inr (.inr ⟨fk6, by omega⟩)))) (by decide)) (show (2 : Int) ≠ 0 by decide)
   exact ⟨by rw [tup_two, r0], S7.nil⟩
  refine J.head (.bool false) (congrArg Value.bool (decide_eq_false fk7)) ?_
  refine J.run 4 K43_21 [(50, .pointer (some ⟨b2, 4, none⟩)), (4, .int .i64 i), (5, .pointer (some ⟨b2, 0, none⟩)), (15, .int .i64 i), (14, .int .i64 (d.gFrames_n : Int)), (13, .slice d.gFrames_a d.gFrames_n d.gFrames_c), (1, .pointer (some ⟨b1, 0, none⟩))] w7 (by kernel_rfl) ?_
  refine J.ok (OK.ldBox S7 0 51 32 4 (.slice ((d.gFrames_l.getD (i).toNat frm0).gSignals_a) ((d.gFrames_l.getD (i).toNat frm0).gSignals_n) ((d.gFrames_l.getD (i).toNat frm0).gSignals_c)) (by kernel_rfl) rfl (by kernel_rfl)) ?_
  refine J.run 4 K43_22 [(49, .bool (decide (((d.gFrames_l.getD (i).toNat frm0).gSignals_n : Int) > 16))), (4, .int .i64 i), (5, .pointer (some ⟨b2, 0, none⟩)), (15, .int .i64 i), (14, .int .i64 (d.gFrames_n : Int)), (13, .slice d.gFrames_a d.gFrames_n d.gFrames_c), (1, .pointer (some ⟨b1, 0, none⟩))] w7 (by kernel_rfl) ?_
  by_cases fk8 : ((d.gFrames_l.getD (i).toNat frm0).gSignals_n : Int) > 16
  ·skip
   refine J.head (.bool true) (congrArg Value.bool (decide_eq_true fk8)) ?_
   refine J.run 4 K43_23 [(54, .pointer (some ⟨b2, 0, none⟩))] w7 (by kernel_rfl) ?_
   refine J.ok (OK.ldBox S7 0 55 9 0 (.string ((d.gFrames_l.getD (i).toNat frm0).gName)) (by kernel_rfl) rfl (by kernel_rfl)) ?_
   refine J.run 3 K43_24 [(3, .int .i64 5), (2, .string ((d.gFrames_l.getD (i).toNat frm0).gName))] w7 (by kernel_rfl) ?_
   refine J.ret Tryd.f43 [.string ((d.gFrames_l.getD (i).toNat frm0).gName), .int .i64 5] Tryd.func43 ⟨by kernel_rfl, by kernel_rfl, trivial⟩ ?_
   refine hR _ _ ?_
   have r0 := fault_at (d := d) (by omega) (by omega) hq (frm_head (hd5 fk3 (bad_no (by omega) (by omega) (.inr (by omega))) (by omega)) (by decide)) (show (5 : Int) ≠ 0 by decide)
   exact ⟨by rw [tup_two, r0], S7.nil⟩
  refine J.head (.bool false) (congrArg Value.bool (decide_eq_false fk8)) ?_
  refine J.run 4 K43_25 [(57, .pointer (some ⟨b1, 0, none⟩)), (4, .int .i64 i), (5, .pointer (some ⟨b2, 0, none⟩)), (15, .int .i64 i), (14, .int .i64 (d.gFrames_n : Int)), (13, .slice d.gFrames_a d.gFrames_n d.gFrames_c), (1, .pointer (some ⟨b1, 0, none⟩))] w7 (by kernel_rfl) ?_
  refine J.ok (OK.ldBox S7 1 58 22 0 (.slice d.gFrames_a d.gFrames_n d.gFrames_c) (by kernel_rfl) rfl (by kernel_rfl)) ?_
  refine J.run 1 K43_26 [(59, .int .i64 i), (58, .slice d.gFrames_a d.gFrames_n d.gFrames_c), (5, .pointer (some ⟨b2, 0, none⟩)), (15, .int .i64 i), (14, .int .i64 (d.gFrames_n : Int)), (13, .slice d.gFrames_a d.gFrames_n d.gFrames_c), (1, .pointer (some ⟨b1, 0, none⟩))] w7 (by kernel_rfl) ?_
  refine J.ok (OK.slice 60 22 5 d.gFrames_a d.gFrames_n d.gFrames_c none (some (.int .i64 i)) 0 ((i).toNat) (by kernel_rfl) (by kernel_rfl) (.inl ⟨rfl, rfl⟩) (.inr ⟨_, _, rfl, by omega⟩) (by first | omega | (simp; omega)) (by first | omega | (simp; omega))) ?_
  refine J.head (.slice d.gFrames_a ((i).toNat) d.gFrames_c) (by rw [subA_zero]; try rfl) ?_
  refine J.run 1 K43_27 [(61, .func (.func 65) #[] #[.pointer (some ⟨b2, 0, none⟩)]), (60, .slice d.gFrames_a ((i).toNat) d.gFrames_c), (5, .pointer (some ⟨b2, 0, none⟩)), (15, .int .i64 i), (14, .int .i64 (d.gFrames_n : Int)), (13, .slice d.gFrames_a d.gFrames_n d.gFrames_c), (1, .pointer (some ⟨b1, 0, none⟩))] w7 (by kernel_rfl) ?_
  refine J.callF 62 25 #[.slice d.gFrames_a ((i).toNat) d.gFrames_c, .func (.func 65) #[] #[.pointer (some ⟨b2, 0, none⟩)]] hb25 (by kernel_rfl) (containsFr1 d.gFrames_a ((i).toNat) d.gFrames_c (d.gFrames_l.take ((i).toNat)) 65 (.pointer (some ⟨b2, 0, none⟩)) (twinB (d.gFrames_l.getD (i).toNat frm0)) _ ((q2.sep S7).take ((i).toNat) (by first | omega | (simp; omega))) (by first | omega | (simp; omega)) hb65 (fun i_ w_ hi_ S_ => twin_any (d.gFrames_l.getD (i).toNat frm0) _ b2 w_ (box_keep (S7.nth 0 rfl) S_))) ?_
  rintro _ w8 ⟨rfl, T4⟩
  have S8 : Sep w [box b2 [.string ((d.gFrames_l.getD (i).toNat frm0).gName), .int .i64 ((d.gFrames_l.getD (i).toNat frm0).gID), .int .i64 ((d.gFrames_l.getD (i).toNat frm0).gLength), .bool ((d.gFrames_l.getD (i).toNat frm0).gGuarded), .slice ((d.gFrames_l.getD (i).toNat frm0).gSignals_a) ((d.gFrames_l.getD (i).toNat frm0).gSignals_n) ((d.gFrames_l.getD (i).toNat frm0).gSignals_c)] 34, box b1 [.slice d.gFrames_a d.gFrames_n d.gFrames_c] 24] w8 := S7.trans T4
  clear T4 S7
  refine J.run 2 K43_28 [(56, .bool (List.any (d.gFrames_l.take ((i).toNat)) (twinB (d.gFrames_l.getD (i).toNat frm0)))), (5, .pointer (some ⟨b2, 0, none⟩)), (15, .int .i64 i), (14, .int .i64 (d.gFrames_n : Int)), (13, .slice d.gFrames_a d.gFrames_n d.gFrames_c), (1, .pointer (some ⟨b1, 0, none⟩))] w8 (by kernel_rfl) ?_
  rcases Bool.eq_false_or_eq_true (List.any (d.gFrames_l.take ((i).toNat)) (twinB (d.gFrames_l.getD (i).toNat frm0))) with fk9 | fk9
  ·skip
   refine J.head (.bool true) (congrArg Value.bool fk9) ?_
   refine J.run 4 K43_29 [(63, .pointer (some ⟨b2, 0, none⟩))] w8 (by kernel_rfl) ?_
   refine J.ok (OK.ldBox S8 0 64 9 0 (.string ((d.gFrames_l.getD (i).toNat frm0).gName)) (by kernel_rfl) rfl (by kernel_rfl)) ?_
   refine J.run 3 K43_30 [(3, .int .i64 8), (2, .string ((d.gFrames_l.getD (i).toNat frm0).gName))] w8 (by kernel_rfl) ?_
   refine J.ret Tryd.f43 [.string ((d.gFrames_l.getD (i).toNat frm0).gName), .int .i64 8] Tryd.func43 ⟨by kernel_rfl, by kernel_rfl, trivial⟩ ?_
   refine hR _ _ ?_
   have r0 := fault_at (d := d) (by omega) (by omega) hq (frm_head (hd8 fk3 (bad_no (by omega) (by omega) (.inr (by omega))) (by omega) fk9) (by decide)) (show (8 : Int) ≠ 0 by decide)
   exact ⟨by rw [tup_two, r0], S8.nil⟩
  refine J.head (.bool false) (congrArg Value.bool fk9) ?_
  refine J.run 5 K43_31 [(5, .pointer (some ⟨b2, 0, none⟩)), (15, .int .i64 i), (14, .int .i64 (d.gFrames_n : Int)), (13, .slice d.gFrames_a d.gFrames_n d.gFrames_c), (1, .pointer (some ⟨b1, 0, none⟩))] w8 (by kernel_rfl) ?_
  refine J.ok (OK.ldBox S8 0 66 34 0 (.agg #[.string ((d.gFrames_l.getD (i).toNat frm0).gName), .int .i64 ((d.gFrames_l.getD (i).toNat frm0).gID), .int .i64 ((d.gFrames_l.getD (i).toNat frm0).gLength), .bool ((d.gFrames_l.getD (i).toNat frm0).gGuarded), .slice ((d.gFrames_l.getD (i).toNat frm0).gSignals_a) ((d.gFrames_l.getD (i).toNat frm0).gSignals_n) ((d.gFrames_l.getD (i).toNat frm0).gSignals_c)]) (by kernel_rfl) rfl (by kernel_rfl)) ?_
  refine J.callF 67 66 #[.agg #[.string ((d.gFrames_l.getD (i).toNat frm0).gName), .int .i64 ((d.gFrames_l.getD (i).toNat frm0).gID), .int .i64 ((d.gFrames_l.getD (i).toNat frm0).gLength), .bool ((d.gFrames_l.getD (i).toNat frm0).gGuarded), .slice ((d.gFrames_l.getD (i).toNat frm0).gSignals_a) ((d.gFrames_l.getD (i).toNat frm0).gSignals_n) ((d.gFrames_l.getD (i).toNat frm0).gSignals_c)]] hb66 (by kernel_rfl) (signals_any (d.gFrames_l.getD (i).toNat frm0) _ (frmQ_sep hel1 S8) (by omega)) ?_
  rintro _ w9 ⟨rfl, T5⟩
  have S9 : Sep w [box b2 [.string ((d.gFrames_l.getD (i).toNat frm0).gName), .int .i64 ((d.gFrames_l.getD (i).toNat frm0).gID), .int .i64 ((d.gFrames_l.getD (i).toNat frm0).gLength), .bool ((d.gFrames_l.getD (i).toNat frm0).gGuarded), .slice ((d.gFrames_l.getD (i).toNat frm0).gSignals_a) ((d.gFrames_l.getD (i).toNat frm0).gSignals_n) ((d.gFrames_l.getD (i).toNat frm0).gSignals_c)] 34, box b1 [.slice d.gFrames_a d.gFrames_n d.gFrames_c] 24] w9 := S8.trans T5
  clear T5 S8
  refine J.run 11 K43_32 [(71, .bool (((sigsF (d.gFrames_l.getD (i).toNat frm0)).2) != 0)), (7, .int .i64 ((sigsF (d.gFrames_l.getD (i).toNat frm0)).2)), (6, .string ((sigsF (d.gFrames_l.getD (i).toNat frm0)).1)), (15, .int .i64 i), (14, .int .i64 (d.gFrames_n : Int)), (13, .slice d.gFrames_a d.gFrames_n d.gFrames_c), (1, .pointer (some ⟨b1, 0, none⟩))] w9 (by kernel_rfl) ?_
  by_cases fk10 : ((sigsF (d.gFrames_l.getD (i).toNat frm0)).2) = 0
  rotate_left
  ·skip
   refine J.head (.bool true) (congrArg Value.bool (bne_iff_ne.2 fk10)) ?_
   refine J.run 8 K43_34 [(3, .int .i64 ((sigsF (d.gFrames_l.getD (i).toNat frm0)).2)), (2, .string ((sigsF (d.gFrames_l.getD (i).toNat frm0)).1))] w9 (by kernel_rfl) ?_
   refine J.ret Tryd.f43 [.string ((sigsF (d.gFrames_l.getD (i).toNat frm0)).1), .int .i64 ((sigsF (d.gFrames_l.getD (i).toNat frm0)).2)] Tryd.func43 ⟨by kernel_rfl, by kernel_rfl, trivial⟩ ?_
   refine hR _ _ ?_
   have r0 := fault_at (d := d) (by omega) (by omega) hq (frm_sig (hd0 fk3 (bad_no (by omega) (by omega) (.inr (by omega))) (by omega) fk9)) fk10
   exact ⟨by rw [tup_two, r0], S9.nil⟩
  refine J.head (.bool false) (congrArg Value.bool (bne_eq_false_iff_eq.2 fk10)) ?_
  refine J.run 5 K43_33 [(74, .int .i64 (IntKind.wrap .i64 (i + 1))), (14, .int .i64 (d.gFrames_n : Int)), (13, .slice d.gFrames_a d.gFrames_n d.gFrames_c), (1, .pointer (some ⟨b1, 0, none⟩))] w9 (by kernel_rfl) ?_
  refine J.head (.int .i64 (i + 1)) (congrArg (Value.int .i64) (IntWalk.i64_in _ (by omega))) ?_
  refine J.run 3 K43_5 [(15, .int .i64 (i + 1)), (14, .int .i64 (d.gFrames_n : Int)), (13, .slice d.gFrames_a d.gFrames_n d.gFrames_c), (1, .pointer (some ⟨b1, 0, none⟩))] w9 (by kernel_rfl) ?_
  have S10 : Sep w [box b1 [.slice d.gFrames_a d.gFrames_n d.gFrames_c] 24] w9 := S9.erase 0
  clear S9
  refine J.run 0 K43_5 [(15, .int .i64 (i + 1)), (14, .int .i64 (d.gFrames_n : Int)), (13, .slice d.gFrames_a d.gFrames_n d.gFrames_c), (1, .pointer (some ⟨b1, 0, none⟩))] w9 (by kernel_rfl) ?_
  exact ih1 _ (show ((d.gFrames_n : Int) - (i + 1)).toNat < mm1 from by omega) (i + 1) w9 (by omega) (by omega) (frm_step h0 hq (by rw [frm_sig (hd0 fk3 (bad_no (by omega) (by omega) (.inr (by omega))) (by omega) fk9)]; exact fk10)) S10 rfl
 exact L43_1 _ 0 w1 (by omega) (by omega) (by intro j hj; simp at hj) S1 rfl

theorem hb90 : HasBody Tryd.prog 90 := fun _ _ => by kernel_rfl
def K90_0 := adv 11 [] (bodyOf Tryd.f90)
def K90_1 := adv 8 [] K90_0
def K90_2 := adv 8 [true] K90_1
def K90_3 := adv 3 [] (popK (popK K90_2))
def K90_4 := adv 5 [true] K90_3
def K90_5 := adv 6 [false] K90_3
def K90_6 := adv 6 [false] K90_1
set_option maxRecDepth 20000 in
set_option maxHeartbeats 20000000 in
theorem has_any (la : Option Addr) (len cap : Nat) (l : List Int) (x : Int) (w : World) (hI : Ints w la len l) (hlen : len ≤ 9223372036854775807) : Ret Tryd.prog 90 #[.slice la len cap, .int .i64 x] w (fun v w' => v = .bool (l.contains x) ∧ Sep w [] w') := by
 have S0 := Sep.refl w
 refine Ret.named fun R hR => ?_
 refine Ret.of_J (N := 18) [(0, .slice la len cap), (1, .int .i64 x)] Tryd.func90 rfl rfl (Nat.le_of_ble_eq_true (by kernel_rfl)) (by kernel_rfl) ?_
 have hll := hI.len_eq
 refine J.run 11 K90_0 [(5, .int .i64 0), (0, .slice la len cap), (1, .int .i64 x)] w (by kernel_rfl) ?_
 have L90_1 : ∀ (mm_ : Nat) (i : Int) (w1 : World), (0 ≤ i) → (i ≤ (len : Int)) → (∀ j, j < (i).toNat → l.getD j 0 ≠ x) → Sep w [] w1 → ((len : Int) - i).toNat = mm_ → J Tryd.prog 90 18 R K90_0 [(5, .int .i64 i), (0, .slice la len cap), (1, .int .i64 x)] w1 := by
  intro mm1
  induction mm1 using Nat.strongRecOn with
  | _ mm1 ih1 =>
  intro i w1 h0 h1 hq S1 hm1
  refine J.run 8 K90_1 [(9, .bool (decide (i < (len : Int)))), (5, .int .i64 i), (0, .slice la len cap), (1, .int .i64 x)] w1 (by kernel_rfl) ?_
  by_cases fk1 : i < (len : Int)
  rotate_left
  ·skip
   refine J.head (.bool false) (congrArg Value.bool (decide_eq_false fk1)) ?_
   refine J.run 6 K90_6 [(4, .bool false)] w1 (by kernel_rfl) ?_
   refine J.ret Tryd.f90 [.bool false] Tryd.func90 ⟨by kernel_rfl, trivial⟩ ?_
   refine hR _ _ ?_
   exact ⟨congrArg Value.bool (contains_no fun j hj => hq j (by omega)).symm, S1.nil⟩
  refine J.head (.bool true) (congrArg Value.bool (decide_eq_true fk1)) ?_
  refine J.run 8 K90_2 [(13, .int .i64 i), (12, .slice la len cap), (5, .int .i64 i), (0, .slice la len cap), (1, .int .i64 x)] w1 (by kernel_rfl) ?_
  obtain ⟨p1, hp1, hc1⟩ := hI.at 0 (i).toNat (by omega)
  refine J.ok (OK.index 14 59 1 la p1 len (i).toNat i (p1.add (i).toNat) (by kernel_rfl) (by kernel_rfl) hp1 (by omega) (by omega) (by rw [Nat.mul_one])) ?_
  refine J.ok (OK.ldCell 15 3 (p1.add (i).toNat) (.int .i64 (l.getD (i).toNat 0)) (by kernel_rfl) (by kernel_rfl) (S1.cell hc1)) ?_
  refine J.run 3 K90_3 [(17, .bool ((l.getD (i).toNat 0) == x)), (5, .int .i64 i), (0, .slice la len cap), (1, .int .i64 x)] w1 (by kernel_rfl) ?_
  by_cases fk2 : (l.getD (i).toNat 0) = x
  ·skip
   refine J.head (.bool true) (congrArg Value.bool (beq_iff_eq.2 fk2)) ?_
   refine J.run 5 K90_4 [(4, .bool true)] w1 (by kernel_rfl) ?_
   refine J.ret Tryd.f90 [.bool true] Tryd.func90 ⟨by kernel_rfl, trivial⟩ ?_
   refine hR _ _ ?_
   exact ⟨congrArg Value.bool (contains_at (by omega) fk2).symm, S1.nil⟩
  refine J.head (.bool false) (congrArg Value.bool (beq_eq_false_iff_ne.2 fk2)) ?_
  refine J.run 6 K90_5 [(11, .int .i64 (IntKind.wrap .i64 (i + 1))), (0, .slice la len cap), (1, .int .i64 x)] w1 (by kernel_rfl) ?_
  refine J.head (.int .i64 (i + 1)) (congrArg (Value.int .i64) (IntWalk.i64_in _ (by omega))) ?_
  refine J.run 3 K90_0 [(5, .int .i64 (i + 1)), (0, .slice la len cap), (1, .int .i64 x)] w1 (by kernel_rfl) ?_
  refine J.run 0 K90_0 [(5, .int .i64 (i + 1)), (0, .slice la len cap), (1, .int .i64 x)] w1 (by kernel_rfl) ?_
  exact ih1 _ (show ((len : Int) - (i + 1)).toNat < mm1 from by omega) (i + 1) w1 (by omega) (by omega) (all_step h0 hq fk2) S1 rfl
 exact L90_1 _ 0 w (by omega) (by omega) (by intro j hj; simp at hj) S0 rfl

theorem hb72 : HasBody Tryd.prog 72 := fun _ _ => by kernel_rfl
def K72_0 := adv 2 [] (bodyOf Tryd.f72)
def K72_1 := adv 5 [] (popK K72_0)
def K72_2 := adv 1 [] (popK K72_1)
def K72_3 := adv 5 [] (popK (popK (popK (popK K72_2))))
def K72_4 := adv 2 [] (popK (popK K72_3))
def K72_5 := adv 6 [false] K72_4
def K72_6 := adv 2 [] (popK K72_5)
def K72_7 := adv 29 [true] K72_6
def K72_8 := adv 1 [] K72_6
def K72_9 := adv 3 [] (popK K72_8)
def K72_10 := adv 24 [true] K72_9
def K72_11 := adv 1 [] K72_9
def K72_12 := adv 3 [] (popK K72_11)
def K72_13 := adv 19 [true] K72_12
def K72_14 := adv 1 [] K72_12
def K72_15 := adv 3 [] (popK K72_14)
def K72_16 := adv 14 [true] K72_15
def K72_17 := adv 1 [] K72_15
def K72_18 := adv 1 [] (popK K72_17)
def K72_19 := adv 1 [] K72_18
def K72_20 := adv 4 [] (popK K72_19)
def K72_21 := adv 5 [true] K72_20
def K72_22 := adv 6 [false] K72_20
def K72_23 := adv 3 [] (popK K72_22)
def K72_24 := adv 5 [true] K72_23
def K72_25 := adv 9 [false] K72_23
def K72_26 := adv 7 [] K72_25
def K72_27 := adv 5 [true] K72_26
def K72_28 := adv 5 [true] (rRest K72_27)
def K72_29 := adv 5 [true] (rRest K72_27)
def K72_30 := adv 6 [false] (rRest K72_27)
def K72_31 := adv 6 [false] K72_26
def K72_32 := adv 12 [false] K72_18
def K72_33 := adv 3 [] (popK K72_32)
def K72_34 := adv 5 [true] K72_33
def K72_35 := adv 9 [false] K72_33
def K72_36 := adv 7 [] K72_35
def K72_37 := adv 5 [true] K72_36
def K72_38 := adv 5 [true] (rRest K72_37)
def K72_39 := adv 5 [true] (rRest K72_37)
def K72_40 := adv 6 [false] (rRest K72_37)
def K72_41 := adv 6 [false] K72_36
def K72_42 := adv 5 [true] K72_4
set_option maxRecDepth 20000 in
set_option maxHeartbeats 20000000 in
theorem head_any (d : Db) (k : Int) (w : World) (hd : dbQ w d) (hk : 0 ≤ k ∧ k < (d.gFrames_n : Int)) : Ret Tryd.prog 72 #[.agg #[.slice d.gFrames_a d.gFrames_n d.gFrames_c], .int .i64 k] w (fun v w' => v = .int .i64 (headErr d k.toNat) ∧ Sep w [] w') := by
 have S0 := Sep.refl w
 refine Ret.named fun R hR => ?_
 refine Ret.of_J (N := 72) [(0, .agg #[.slice d.gFrames_a d.gFrames_n d.gFrames_c]), (1, .int .i64 k)] Tryd.func72 rfl rfl (Nat.le_of_ble_eq_true (by kernel_rfl)) (by kernel_rfl) ?_
 obtain ⟨q1, q2, q3, _⟩ := id hd
 have ql1 := q2.len_eq
 refine J.run 2 K72_0 [(0, .agg #[.slice d.gFrames_a d.gFrames_n d.gFrames_c]), (1, .int .i64 k)] w (by kernel_rfl) ?_
 refine J.new S0 2 [.slice d.gFrames_a d.gFrames_n d.gFrames_c] 24 (by kernel_rfl) ?_
 intro b1 w1 S1
 refine J.run 5 K72_1 [(7, .pointer (some ⟨b1, 0, none⟩)), (2, .pointer (some ⟨b1, 0, none⟩)), (1, .int .i64 k)] w1 (by kernel_rfl) ?_
 refine J.ok (OK.ldBox S1 0 8 22 0 (.slice d.gFrames_a d.gFrames_n d.gFrames_c) (by kernel_rfl) rfl (by kernel_rfl)) ?_
 refine J.run 1 K72_2 [(9, .int .i64 k), (8, .slice d.gFrames_a d.gFrames_n d.gFrames_c), (2, .pointer (some ⟨b1, 0, none⟩)), (1, .int .i64 k)] w1 (by kernel_rfl) ?_
 obtain ⟨p1, hp1, hc1⟩ := q2.at frm0 (k).toNat (by omega)
 have hel1 := getD_Q q3 frm0 (n := (k).toNat) (by have := q2.len_eq; omega)
 obtain ⟨q4, q5, q6, q7, q8, q9, _⟩ := id hel1
 have ql2 := q8.len_eq
 refine J.ok (OK.index 10 22 5 d.gFrames_a p1 d.gFrames_n (k).toNat k (p1.add ((k).toNat * 5)) (by kernel_rfl) (by kernel_rfl) hp1 (by omega) (by omega) rfl) ?_
 refine J.ok (OK.ldCells 11 34 (p1.add ((k).toNat * 5)) [.string ((d.gFrames_l.getD (k).toNat frm0).gName), .int .i64 ((d.gFrames_l.getD (k).toNat frm0).gID), .int .i64 ((d.gFrames_l.getD (k).toNat frm0).gLength), .bool ((d.gFrames_l.getD (k).toNat frm0).gGuarded), .slice ((d.gFrames_l.getD (k).toNat frm0).gSignals_a) ((d.gFrames_l.getD (k).toNat frm0).gSignals_n) ((d.gFrames_l.getD (k).toNat frm0).gSignals_c)] (by kernel_rfl) (by kernel_rfl) (by kernel_rfl) (fun j_ v_ hj_ => S1.cell (hc1 j_ v_ hj_))) ?_
 refine J.new S1 5 [.string ByteArray.empty, .int .i64 0, .int .i64 0, .bool false, .slice none 0 0] 34 (by kernel_rfl) ?_
 intro b2 w2 S2
 refine J.stBox S2 0 34 0 (.agg #[.string ((d.gFrames_l.getD (k).toNat frm0).gName), .int .i64 ((d.gFrames_l.getD (k).toNat frm0).gID), .int .i64 ((d.gFrames_l.getD (k).toNat frm0).gLength), .bool ((d.gFrames_l.getD (k).toNat frm0).gGuarded), .slice ((d.gFrames_l.getD (k).toNat frm0).gSignals_a) ((d.gFrames_l.getD (k).toNat frm0).gSignals_n) ((d.gFrames_l.getD (k).toNat frm0).gSignals_c)]) [.string ((d.gFrames_l.getD (k).toNat frm0).gName), .int .i64 ((d.gFrames_l.getD (k).toNat frm0).gID), .int .i64 ((d.gFrames_l.getD (k).toNat frm0).gLength), .bool ((d.gFrames_l.getD (k).toNat frm0).gGuarded), .slice ((d.gFrames_l.getD (k).toNat frm0).gSignals_a) ((d.gFrames_l.getD (k).toNat frm0).gSignals_n) ((d.gFrames_l.getD (k).toNat frm0).gSignals_c)] [box b2 [.string ((d.gFrames_l.getD (k).toNat frm0).gName), .int .i64 ((d.gFrames_l.getD (k).toNat frm0).gID), .int .i64 ((d.gFrames_l.getD (k).toNat frm0).gLength), .bool ((d.gFrames_l.getD (k).toNat frm0).gGuarded), .slice ((d.gFrames_l.getD (k).toNat frm0).gSignals_a) ((d.gFrames_l.getD (k).toNat frm0).gSignals_n) ((d.gFrames_l.getD (k).toNat frm0).gSignals_c)] 34, box b1 [.slice d.gFrames_a d.gFrames_n d.gFrames_c] 24] (by kernel_rfl) rfl (by kernel_rfl) (by kernel_rfl) rfl ?_
 intro w3 S3
 refine J.run 5 K72_3 [(12, .pointer (some ⟨b2, 0, none⟩)), (5, .pointer (some ⟨b2, 0, none⟩)), (2, .pointer (some ⟨b1, 0, none⟩)), (1, .int .i64 k)] w3 (by kernel_rfl) ?_
 refine J.ok (OK.ldBox S3 0 13 9 0 (.string ((d.gFrames_l.getD (k).toNat frm0).gName)) (by kernel_rfl) rfl (by kernel_rfl)) ?_
 refine J.callF 14 87 #[.string ((d.gFrames_l.getD (k).toNat frm0).gName)] hb87 (by kernel_rfl) (rname_any ((d.gFrames_l.getD (k).toNat frm0).gName) _ (by omega)) ?_
 rintro _ w4 ⟨rfl, T1⟩
 have S4 : Sep w [box b2 [.string ((d.gFrames_l.getD (k).toNat frm0).gName), .int .i64 ((d.gFrames_l.getD (k).toNat frm0).gID), .int .i64 ((d.gFrames_l.getD (k).toNat frm0).gLength), .bool ((d.gFrames_l.getD (k).toNat frm0).gGuarded), .slice ((d.gFrames_l.getD (k).toNat frm0).gSignals_a) ((d.gFrames_l.getD (k).toNat frm0).gSignals_n) ((d.gFrames_l.getD (k).toNat frm0).gSignals_c)] 34, box b1 [.slice d.gFrames_a d.gFrames_n d.gFrames_c] 24] w4 := S3.trans T1
 clear T1 S3
 refine J.run 2 K72_4 [(15, .bool (!(nameB ((d.gFrames_l.getD (k).toNat frm0).gName)))), (5, .pointer (some ⟨b2, 0, none⟩)), (2, .pointer (some ⟨b1, 0, none⟩)), (1, .int .i64 k)] w4 (by kernel_rfl) ?_
 rcases Bool.eq_false_or_eq_true (nameB ((d.gFrames_l.getD (k).toNat frm0).gName)) with fk1 | fk1
 rotate_left
 ·skip
  refine J.head (.bool true) (congrArg Value.bool (by rw [fk1]; rfl)) ?_
  refine J.run 5 K72_42 [(4, .int .i64 1)] w4 (by kernel_rfl) ?_
  refine J.ret Tryd.f72 [.int .i64 1] Tryd.func72 ⟨by kernel_rfl, trivial⟩ ?_
  refine hR _ _ ?_
  exact ⟨congrArg (Value.int .i64) (hd1 fk1).symm, S4.nil⟩
 refine J.head (.bool false) (congrArg Value.bool (by rw [fk1]; rfl)) ?_
 refine J.run 6 K72_5 [(16, .pointer (some ⟨b2, 1, none⟩)), (5, .pointer (some ⟨b2, 0, none⟩)), (2, .pointer (some ⟨b1, 0, none⟩)), (1, .int .i64 k)] w4 (by kernel_rfl) ?_
 refine J.ok (OK.ldBox S4 0 17 3 1 (.int .i64 ((d.gFrames_l.getD (k).toNat frm0).gID)) (by kernel_rfl) rfl (by kernel_rfl)) ?_
 refine J.run 2 K72_6 [(19, .bool (decide (((d.gFrames_l.getD (k).toNat frm0).gID) < 0))), (5, .pointer (some ⟨b2, 0, none⟩)), (2, .pointer (some ⟨b1, 0, none⟩)), (1, .int .i64 k)] w4 (by kernel_rfl) ?_
 by_cases fk2 : ((d.gFrames_l.getD (k).toNat frm0).gID) < 0
 ·skip
  refine J.head (.bool true) (congrArg Value.bool (decide_eq_true fk2)) ?_
  refine J.run 29 K72_7 [(4, .int .i64 2)] w4 (by kernel_rfl) ?_
  refine J.ret Tryd.f72 [.int .i64 2] Tryd.func72 ⟨by kernel_rfl, trivial⟩ ?_
  refine hR _ _ ?_
  exact ⟨congrArg (Value.int .i64) (hd2 fk1 (bad_yes (by first | omega | exact .inr (.inr ⟨rfl, by omega⟩)))).symm, S4.nil⟩
 refine J.head (.bool false) (congrArg Value.bool (decide_eq_false fk2)) ?_
 refine J.run 1 K72_8 [(20, .pointer (some ⟨b2, 1, none⟩)), (19, .bool false), (5, .pointer (some ⟨b2, 0, none⟩)), (2, .pointer (some ⟨b1, 0, none⟩)), (1, .int .i64 k)] w4 (by kernel_rfl) ?_
 refine J.ok (OK.ldBox S4 0 21 3 1 (.int .i64 ((d.gFrames_l.getD (k).toNat frm0).gID)) (by kernel_rfl) rfl (by kernel_rfl)) ?_
 refine J.run 3 K72_9 [(24, .bool (decide (((d.gFrames_l.getD (k).toNat frm0).gID) > 2047))), (5, .pointer (some ⟨b2, 0, none⟩)), (2, .pointer (some ⟨b1, 0, none⟩)), (1, .int .i64 k)] w4 (by kernel_rfl) ?_
 by_cases fk3 : ((d.gFrames_l.getD (k).toNat frm0).gID) > 2047
 ·skip
  refine J.head (.bool true) (congrArg Value.bool (decide_eq_true fk3)) ?_
  refine J.run 24 K72_10 [(4, .int .i64 2)] w4 (by kernel_rfl) ?_
  refine J.ret Tryd.f72 [.int .i64 2] Tryd.func72 ⟨by kernel_rfl, trivial⟩ ?_
  refine hR _ _ ?_
  exact ⟨congrArg (Value.int .i64) (hd2 fk1 (bad_yes (by first | omega | exact .inr (.inr ⟨rfl, by omega⟩)))).symm, S4.nil⟩
 refine J.head (.bool false) (congrArg Value.bool (decide_eq_false fk3)) ?_
 refine J.run 1 K72_11 [(25, .pointer (some ⟨b2, 2, none⟩)), (24, .bool false), (5, .pointer (some ⟨b2, 0, none⟩)), (2, .pointer (some ⟨b1, 0, none⟩)), (1, .int .i64 k)] w4 (by kernel_rfl) ?_
 refine J.ok (OK.ldBox S4 0 26 3 2 (.int .i64 ((d.gFrames_l.getD (k).toNat frm0).gLength)) (by kernel_rfl) rfl (by kernel_rfl)) ?_
 refine J.run 3 K72_12 [(29, .bool (decide (((d.gFrames_l.getD (k).toNat frm0).gLength) < 1))), (5, .pointer (some ⟨b2, 0, none⟩)), (2, .pointer (some ⟨b1, 0, none⟩)), (1, .int .i64 k)] w4 (by kernel_rfl) ?_
 by_cases fk4 : ((d.gFrames_l.getD (k).toNat frm0).gLength) < 1
 ·skip
  refine J.head (.bool true) (congrArg Value.bool (decide_eq_true fk4)) ?_
  refine J.run 19 K72_13 [(4, .int .i64 2)] w4 (by kernel_rfl) ?_
  refine J.ret Tryd.f72 [.int .i64 2] Tryd.func72 ⟨by kernel_rfl, trivial⟩ ?_
  refine hR _ _ ?_
  exact ⟨congrArg (Value.int .i64) (hd2 fk1 (bad_yes (by first | omega | exact .inr (.inr ⟨rfl, by omega⟩)))).symm, S4.nil⟩
 refine J.head (.bool false) (congrArg Value.bool (decide_eq_false fk4)) ?_
 refine J.run 1 K72_14 [(30, .pointer (some ⟨b2, 2, none⟩)), (29, .bool false), (5, .pointer (some ⟨b2, 0, none⟩)), (2, .pointer (some ⟨b1, 0, none⟩)), (1, .int .i64 k)] w4 (by kernel_rfl) ?_
 refine J.ok (OK.ldBox S4 0 31 3 2 (.int .i64 ((d.gFrames_l.getD (k).toNat frm0).gLength)) (by kernel_rfl) rfl (by kernel_rfl)) ?_
 refine J.run 3 K72_15 [(34, .bool (decide (((d.gFrames_l.getD (k).toNat frm0).gLength) > 8))), (5, .pointer (some ⟨b2, 0, none⟩)), (2, .pointer (some ⟨b1, 0, none⟩)), (1, .int .i64 k)] w4 (by kernel_rfl) ?_
 by_cases fk5 : ((d.gFrames_l.getD (k).toNat frm0).gLength) > 8
 ·skip
  refine J.head (.bool true) (congrArg Value.bool (decide_eq_true fk5)) ?_
  refine J.run 14 K72_16 [(4, .int .i64 2)] w4 (by kernel_rfl) ?_
  refine J.ret Tryd.f72 [.int .i64 2] Tryd.func72 ⟨by kernel_rfl, trivial⟩ ?_
  refine hR _ _ ?_
  exact ⟨congrArg (Value.int .i64) (hd2 fk1 (bad_yes (by first | omega | exact .inr (.inr ⟨rfl, by omega⟩)))).symm, S4.nil⟩
 refine J.head (.bool false) (congrArg Value.bool (decide_eq_false fk5)) ?_
 refine J.run 1 K72_17 [(35, .pointer (some ⟨b2, 3, none⟩)), (34, .bool false), (5, .pointer (some ⟨b2, 0, none⟩)), (2, .pointer (some ⟨b1, 0, none⟩)), (1, .int .i64 k)] w4 (by kernel_rfl) ?_
 refine J.ok (OK.ldBox S4 0 36 4 3 (.bool ((d.gFrames_l.getD (k).toNat frm0).gGuarded)) (by kernel_rfl) rfl (by kernel_rfl)) ?_
 refine J.run 1 K72_18 [(37, .bool ((d.gFrames_l.getD (k).toNat frm0).gGuarded)), (34, .bool false), (5, .pointer (some ⟨b2, 0, none⟩)), (2, .pointer (some ⟨b1, 0, none⟩)), (1, .int .i64 k)] w4 (by kernel_rfl) ?_
 rcases Bool.eq_false_or_eq_true ((d.gFrames_l.getD (k).toNat frm0).gGuarded) with fk6 | fk6
 rotate_left
 ·skip
  refine J.head (.bool false) (congrArg Value.bool fk6) ?_
  refine J.run 12 K72_32 [(43, .pointer (some ⟨b2, 4, none⟩)), (5, .pointer (some ⟨b2, 0, none⟩)), (2, .pointer (some ⟨b1, 0, none⟩)), (1, .int .i64 k)] w4 (by kernel_rfl) ?_
  refine J.ok (OK.ldBox S4 0 44 32 4 (.slice ((d.gFrames_l.getD (k).toNat frm0).gSignals_a) ((d.gFrames_l.getD (k).toNat frm0).gSignals_n) ((d.gFrames_l.getD (k).toNat frm0).gSignals_c)) (by kernel_rfl) rfl (by kernel_rfl)) ?_
  refine J.run 3 K72_33 [(46, .bool (decide (((d.gFrames_l.getD (k).toNat frm0).gSignals_n : Int) > 16))), (5, .pointer (some ⟨b2, 0, none⟩)), (2, .pointer (some ⟨b1, 0, none⟩)), (1, .int .i64 k)] w4 (by kernel_rfl) ?_
  by_cases fk12 : ((d.gFrames_l.getD (k).toNat frm0).gSignals_n : Int) > 16
  ·skip
   refine J.head (.bool true) (congrArg Value.bool (decide_eq_true fk12)) ?_
   refine J.run 5 K72_34 [(4, .int .i64 5)] w4 (by kernel_rfl) ?_
   refine J.ret Tryd.f72 [.int .i64 5] Tryd.func72 ⟨by kernel_rfl, trivial⟩ ?_
   refine hR _ _ ?_
   exact ⟨congrArg (Value.int .i64) (hd5 fk1 (bad_no (by omega) (by omega) (.inl fk6)) (by omega)).symm, S4.nil⟩
  refine J.head (.bool false) (congrArg Value.bool (decide_eq_false fk12)) ?_
  refine J.run 9 K72_35 [(6, .int .i64 0), (5, .pointer (some ⟨b2, 0, none⟩)), (2, .pointer (some ⟨b1, 0, none⟩)), (1, .int .i64 k)] w4 (by kernel_rfl) ?_
  have L72_2 : ∀ (mm_ : Nat) (i : Int) (w8 : World), (0 ≤ i) → (i ≤ k) → (∀ j, j < (i).toNat → twinB (d.gFrames_l.getD (k).toNat frm0) (d.gFrames_l.getD j frm0) = false) → Sep w [box b2 [.string ((d.gFrames_l.getD (k).toNat frm0).gName), .int .i64 ((d.gFrames_l.getD (k).toNat frm0).gID), .int .i64 ((d.gFrames_l.getD (k).toNat frm0).gLength), .bool ((d.gFrames_l.getD (k).toNat frm0).gGuarded), .slice ((d.gFrames_l.getD (k).toNat frm0).gSignals_a) ((d.gFrames_l.getD (k).toNat frm0).gSignals_n) ((d.gFrames_l.getD (k).toNat frm0).gSignals_c)] 34, box b1 [.slice d.gFrames_a d.gFrames_n d.gFrames_c] 24] w8 → (k - i).toNat = mm_ → J Tryd.prog 72 72 R K72_35 [(6, .int .i64 i), (5, .pointer (some ⟨b2, 0, none⟩)), (2, .pointer (some ⟨b1, 0, none⟩)), (1, .int .i64 k)] w8 := by
   intro mm2
   induction mm2 using Nat.strongRecOn with
   | _ mm2 ih2 =>
   intro i w8 h0 h1 hq S8 hm2
   refine J.run 7 K72_36 [(49, .bool (decide (i < k))), (6, .int .i64 i), (5, .pointer (some ⟨b2, 0, none⟩)), (2, .pointer (some ⟨b1, 0, none⟩)), (1, .int .i64 k)] w8 (by kernel_rfl) ?_
   by_cases fk13 : i < k
   rotate_left
   ·skip
    refine J.head (.bool false) (congrArg Value.bool (decide_eq_false fk13)) ?_
    refine J.run 6 K72_41 [(4, .int .i64 0)] w8 (by kernel_rfl) ?_
    refine J.ret Tryd.f72 [.int .i64 0] Tryd.func72 ⟨by kernel_rfl, trivial⟩ ?_
    refine hR _ _ ?_
    exact ⟨congrArg (Value.int .i64) (hd0 fk1 (bad_no (by omega) (by omega) (.inl fk6)) (by omega) (take_any_no frm0 (by omega) fun j hj => hq j (by omega))).symm, S8.nil⟩
   refine J.head (.bool true) (congrArg Value.bool (decide_eq_true fk13)) ?_
   refine J.run 5 K72_37 [(6, .int .i64 i), (5, .pointer (some ⟨b2, 0, none⟩)), (2, .pointer (some ⟨b1, 0, none⟩)), (1, .int .i64 k)] w8 (by kernel_rfl) ?_
   rcases Bool.eq_false_or_eq_true (((d.gFrames_l.getD (i).toNat frm0).gName).toList == ((d.gFrames_l.getD (k).toNat frm0).gName).toList) with fk14 | fk14
   ·skip
    obtain ⟨p4, hp4, hc4⟩ := q2.at frm0 (i).toNat (by omega)
    have hel4 := getD_Q q3 frm0 (n := (i).toNat) (by have := q2.len_eq; omega)
    obtain ⟨q22, q23, q24, q25, q26, q27, _⟩ := id hel4
    have ql5 := q26.len_eq
    refine J.drawStill S8 20 Tryd.mixed (by kernel_rfl) (by kernel_rfl) (by kernel_rfl) ?_
    intro w9 S9
    refine SL.ok (by decide) (OK.run 52 (.pointer (some ⟨b1, 0, none⟩)) (by kernel_rfl)) ?_
    refine SL.ok (by decide) (OK.ldBox S9 1 53 22 0 (.slice d.gFrames_a d.gFrames_n d.gFrames_c) (by kernel_rfl) rfl (by kernel_rfl)) ?_
    refine SL.ok (by decide) (OK.run 54 (.int .i64 i) (by kernel_rfl)) ?_
    refine SL.ok (by decide) (OK.index 55 22 5 d.gFrames_a p4 d.gFrames_n (i).toNat i (p4.add ((i).toNat * 5)) (by kernel_rfl) (by kernel_rfl) hp4 (by omega) (by omega) rfl) ?_
    refine SL.ok (by decide) (OK.run 56 (.pointer (some ((p4.add ((i).toNat * 5)).add 0))) (by kernel_rfl)) ?_
    refine SL.ok (by decide) (OK.ldCell 57 9 ((p4.add ((i).toNat * 5)).add 0) (.string ((d.gFrames_l.getD (i).toNat frm0).gName)) (by kernel_rfl) (by kernel_rfl) (S9.cell (hc4 0 _ rfl))) ?_
    refine SL.ok (by decide) (OK.run 58 (.pointer (some ⟨b2, 0, none⟩)) (by kernel_rfl)) ?_
    refine SL.ok (by decide) (OK.ldBox S9 0 59 9 0 (.string ((d.gFrames_l.getD (k).toNat frm0).gName)) (by kernel_rfl) rfl (by kernel_rfl)) ?_
    refine SL.ok (by decide) (OK.run 60 (.bool (((d.gFrames_l.getD (i).toNat frm0).gName).toList == ((d.gFrames_l.getD (k).toNat frm0).gName).toList)) (by kernel_rfl)) ?_
    refine SL.head (.bool true) (congrArg Value.bool fk14) ?_
    refine SL.ok (by decide) (OK.run 61 (.bool true) (by kernel_rfl)) ?_
    refine SL.pass (d := some 62) (by decide) (by kernel_rfl) ?_
    refine SL.pass (d := some 63) (by decide) (by kernel_rfl) ?_
    refine SL.pass (d := some 64) (by decide) (by kernel_rfl) ?_
    refine SL.pass (d := some 65) (by decide) (by kernel_rfl) ?_
    refine SL.pass (d := some 66) (by decide) (by kernel_rfl) ?_
    refine SL.pass (d := some 67) (by decide) (by kernel_rfl) ?_
    refine SL.pass (d := some 68) (by decide) (by kernel_rfl) ?_
    refine SL.pass (d := some 69) (by decide) (by kernel_rfl) ?_
    refine SL.pass (d := some 70) (by decide) (by kernel_rfl) ?_
    refine SL.ok (by decide) (OK.run 71 (.bool true) (by kernel_rfl)) ?_
    refine SL.done ?_
    refine TL.done (by kernel_rfl) ?_
    refine J.run 0 (rRest K72_37) [(71, .bool true), (6, .int .i64 i), (5, .pointer (some ⟨b2, 0, none⟩)), (2, .pointer (some ⟨b1, 0, none⟩)), (1, .int .i64 k)] w9 (by kernel_rfl) ?_
    refine J.run 5 K72_38 [(4, .int .i64 8)] w9 (by kernel_rfl) ?_
    refine J.ret Tryd.f72 [.int .i64 8] Tryd.func72 ⟨by kernel_rfl, trivial⟩ ?_
    refine hR _ _ ?_
    exact ⟨congrArg (Value.int .i64) (hd8 fk1 (bad_no (by omega) (by omega) (.inl fk6)) (by omega) (take_any_yes (j := i.toNat) frm0 (by omega) (by omega) (by unfold twinB eqT; first | (rw [fk14]; rfl) | (rw [fk14]; simp)))).symm, S9.nil⟩
   obtain ⟨p5, hp5, hc5⟩ := q2.at frm0 (i).toNat (by omega)
   have hel5 := getD_Q q3 frm0 (n := (i).toNat) (by have := q2.len_eq; omega)
   obtain ⟨q28, q29, q30, q31, q32, q33, _⟩ := id hel5
   have ql6 := q32.len_eq
   refine J.drawStill S8 20 Tryd.mixed (by kernel_rfl) (by kernel_rfl) (by kernel_rfl) ?_
   intro w10 S10
   refine SL.ok (by decide) (OK.run 52 (.pointer (some ⟨b1, 0, none⟩)) (by kernel_rfl)) ?_
   refine SL.ok (by decide) (OK.ldBox S10 1 53 22 0 (.slice d.gFrames_a d.gFrames_n d.gFrames_c) (by kernel_rfl) rfl (by kernel_rfl)) ?_
   refine SL.ok (by decide) (OK.run 54 (.int .i64 i) (by kernel_rfl)) ?_
   refine SL.ok (by decide) (OK.index 55 22 5 d.gFrames_a p5 d.gFrames_n (i).toNat i (p5.add ((i).toNat * 5)) (by kernel_rfl) (by kernel_rfl) hp5 (by omega) (by omega) rfl) ?_
   refine SL.ok (by decide) (OK.run 56 (.pointer (some ((p5.add ((i).toNat * 5)).add 0))) (by kernel_rfl)) ?_
   refine SL.ok (by decide) (OK.ldCell 57 9 ((p5.add ((i).toNat * 5)).add 0) (.string ((d.gFrames_l.getD (i).toNat frm0).gName)) (by kernel_rfl) (by kernel_rfl) (S10.cell (hc5 0 _ rfl))) ?_
   refine SL.ok (by decide) (OK.run 58 (.pointer (some ⟨b2, 0, none⟩)) (by kernel_rfl)) ?_
   refine SL.ok (by decide) (OK.ldBox S10 0 59 9 0 (.string ((d.gFrames_l.getD (k).toNat frm0).gName)) (by kernel_rfl) rfl (by kernel_rfl)) ?_
   refine SL.ok (by decide) (OK.run 60 (.bool (((d.gFrames_l.getD (i).toNat frm0).gName).toList == ((d.gFrames_l.getD (k).toNat frm0).gName).toList)) (by kernel_rfl)) ?_
   refine SL.head (.bool false) (congrArg Value.bool fk14) ?_
   refine SL.ok (by decide) (OK.run 61 (.bool false) (by kernel_rfl)) ?_
   refine SL.ok (by decide) (OK.run 62 (.pointer (some ⟨b1, 0, none⟩)) (by kernel_rfl)) ?_
   refine SL.ok (by decide) (OK.ldBox S10 1 63 22 0 (.slice d.gFrames_a d.gFrames_n d.gFrames_c) (by kernel_rfl) rfl (by kernel_rfl)) ?_
   refine SL.ok (by decide) (OK.run 64 (.int .i64 i) (by kernel_rfl)) ?_
   refine SL.ok (by decide) (OK.index 65 22 5 d.gFrames_a p5 d.gFrames_n (i).toNat i (p5.add ((i).toNat * 5)) (by kernel_rfl) (by kernel_rfl) hp5 (by omega) (by omega) rfl) ?_
   refine SL.ok (by decide) (OK.run 66 (.pointer (some ((p5.add ((i).toNat * 5)).add 1))) (by kernel_rfl)) ?_
   refine SL.ok (by decide) (OK.ldCell 67 3 ((p5.add ((i).toNat * 5)).add 1) (.int .i64 ((d.gFrames_l.getD (i).toNat frm0).gID)) (by kernel_rfl) (by kernel_rfl) (S10.cell (hc5 1 _ rfl))) ?_
   refine SL.ok (by decide) (OK.run 68 (.pointer (some ⟨b2, 1, none⟩)) (by kernel_rfl)) ?_
   refine SL.ok (by decide) (OK.ldBox S10 0 69 3 1 (.int .i64 ((d.gFrames_l.getD (k).toNat frm0).gID)) (by kernel_rfl) rfl (by kernel_rfl)) ?_
   refine SL.ok (by decide) (OK.run 70 (.bool (((d.gFrames_l.getD (i).toNat frm0).gID) == ((d.gFrames_l.getD (k).toNat frm0).gID))) (by kernel_rfl)) ?_
   refine SL.ok (by decide) (OK.run 71 (.bool (((d.gFrames_l.getD (i).toNat frm0).gID) == ((d.gFrames_l.getD (k).toNat frm0).gID))) (by kernel_rfl)) ?_
   refine SL.done ?_
   refine TL.done (by kernel_rfl) ?_
   refine J.run 0 (rRest K72_37) [(71, .bool (((d.gFrames_l.getD (i).toNat frm0).gID) == ((d.gFrames_l.getD (k).toNat frm0).gID))), (6, .int .i64 i), (5, .pointer (some ⟨b2, 0, none⟩)), (2, .pointer (some ⟨b1, 0, none⟩)), (1, .int .i64 k)] w10 (by kernel_rfl) ?_
   by_cases fk15 : ((d.gFrames_l.getD (i).toNat frm0).gID) = ((d.gFrames_l.getD (k).toNat frm0).gID)
   ·skip
    refine J.head (.bool true) (congrArg Value.bool (beq_iff_eq.2 fk15)) ?_
    refine J.run 5 K72_39 [(4, .int .i64 8)] w10 (by kernel_rfl) ?_
    refine J.ret Tryd.f72 [.int .i64 8] Tryd.func72 ⟨by kernel_rfl, trivial⟩ ?_
    refine hR _ _ ?_
    exact ⟨congrArg (Value.int .i64) (hd8 fk1 (bad_no (by omega) (by omega) (.inl fk6)) (by omega) (take_any_yes (j := i.toNat) frm0 (by omega) (by omega) (by unfold twinB eqT; first | (rw [fk14]; rfl) | (rw [(beq_iff_eq.2 fk15)]; simp)))).symm, S10.nil⟩
   refine J.head (.bool false) (congrArg Value.bool (beq_eq_false_iff_ne.2 fk15)) ?_
   refine J.run 6 K72_40 [(51, .int .i64 (IntKind.wrap .i64 (i + 1))), (5, .pointer (some ⟨b2, 0, none⟩)), (2, .pointer (some ⟨b1, 0, none⟩)), (1, .int .i64 k)] w10 (by kernel_rfl) ?_
   refine J.head (.int .i64 (i + 1)) (congrArg (Value.int .i64) (IntWalk.i64_in _ (by omega))) ?_
   refine J.run 3 K72_35 [(6, .int .i64 (i + 1)), (5, .pointer (some ⟨b2, 0, none⟩)), (2, .pointer (some ⟨b1, 0, none⟩)), (1, .int .i64 k)] w10 (by kernel_rfl) ?_
   refine J.run 0 K72_35 [(6, .int .i64 (i + 1)), (5, .pointer (some ⟨b2, 0, none⟩)), (2, .pointer (some ⟨b1, 0, none⟩)), (1, .int .i64 k)] w10 (by kernel_rfl) ?_
   exact ih2 _ (show (k - (i + 1)).toNat < mm2 from by omega) (i + 1) w10 (by omega) (by omega) (all_step h0 hq (by unfold twinB eqT; rw [fk14, (beq_eq_false_iff_ne.2 fk15)]; rfl)) S10 rfl
  exact L72_2 _ 0 w4 (by omega) (by omega) (by intro j hj; simp at hj) S4 rfl
 refine J.head (.bool true) (congrArg Value.bool fk6) ?_
 refine J.run 1 K72_19 [(38, .pointer (some ⟨b2, 2, none⟩)), (37, .bool true), (34, .bool false), (5, .pointer (some ⟨b2, 0, none⟩)), (2, .pointer (some ⟨b1, 0, none⟩)), (1, .int .i64 k)] w4 (by kernel_rfl) ?_
 refine J.ok (OK.ldBox S4 0 39 3 2 (.int .i64 ((d.gFrames_l.getD (k).toNat frm0).gLength)) (by kernel_rfl) rfl (by kernel_rfl)) ?_
 refine J.run 4 K72_20 [(42, .bool (decide (((d.gFrames_l.getD (k).toNat frm0).gLength) < 2))), (5, .pointer (some ⟨b2, 0, none⟩)), (2, .pointer (some ⟨b1, 0, none⟩)), (1, .int .i64 k)] w4 (by kernel_rfl) ?_
 by_cases fk7 : ((d.gFrames_l.getD (k).toNat frm0).gLength) < 2
 ·skip
  refine J.head (.bool true) (congrArg Value.bool (decide_eq_true fk7)) ?_
  refine J.run 5 K72_21 [(4, .int .i64 2)] w4 (by kernel_rfl) ?_
  refine J.ret Tryd.f72 [.int .i64 2] Tryd.func72 ⟨by kernel_rfl, trivial⟩ ?_
  refine hR _ _ ?_
  exact ⟨congrArg (Value.int .i64) (hd2 fk1 (bad_yes (by first | omega | exact .inr (.inr ⟨fk6, by omega⟩)))).symm, S4.nil⟩
 refine J.head (.bool false) (congrArg Value.bool (decide_eq_false fk7)) ?_
 refine J.run 6 K72_22 [(43, .pointer (some ⟨b2, 4, none⟩)), (5, .pointer (some ⟨b2, 0, none⟩)), (2, .pointer (some ⟨b1, 0, none⟩)), (1, .int .i64 k)] w4 (by kernel_rfl) ?_
 refine J.ok (OK.ldBox S4 0 44 32 4 (.slice ((d.gFrames_l.getD (k).toNat frm0).gSignals_a) ((d.gFrames_l.getD (k).toNat frm0).gSignals_n) ((d.gFrames_l.getD (k).toNat frm0).gSignals_c)) (by kernel_rfl) rfl (by kernel_rfl)) ?_
 refine J.run 3 K72_23 [(46, .bool (decide (((d.gFrames_l.getD (k).toNat frm0).gSignals_n : Int) > 16))), (5, .pointer (some ⟨b2, 0, none⟩)), (2, .pointer (some ⟨b1, 0, none⟩)), (1, .int .i64 k)] w4 (by kernel_rfl) ?_
 by_cases fk8 : ((d.gFrames_l.getD (k).toNat frm0).gSignals_n : Int) > 16
 ·skip
  refine J.head (.bool true) (congrArg Value.bool (decide_eq_true fk8)) ?_
  refine J.run 5 K72_24 [(4, .int .i64 5)] w4 (by kernel_rfl) ?_
  refine J.ret Tryd.f72 [.int .i64 5] Tryd.func72 ⟨by kernel_rfl, trivial⟩ ?_
  refine hR _ _ ?_
  exact ⟨congrArg (Value.int .i64) (hd5 fk1 (bad_no (by omega) (by omega) (.inr (by omega))) (by omega)).symm, S4.nil⟩
 refine J.head (.bool false) (congrArg Value.bool (decide_eq_false fk8)) ?_
 refine J.run 9 K72_25 [(6, .int .i64 0), (5, .pointer (some ⟨b2, 0, none⟩)), (2, .pointer (some ⟨b1, 0, none⟩)), (1, .int .i64 k)] w4 (by kernel_rfl) ?_
 have L72_1 : ∀ (mm_ : Nat) (i : Int) (w5 : World), (0 ≤ i) → (i ≤ k) → (∀ j, j < (i).toNat → twinB (d.gFrames_l.getD (k).toNat frm0) (d.gFrames_l.getD j frm0) = false) → Sep w [box b2 [.string ((d.gFrames_l.getD (k).toNat frm0).gName), .int .i64 ((d.gFrames_l.getD (k).toNat frm0).gID), .int .i64 ((d.gFrames_l.getD (k).toNat frm0).gLength), .bool ((d.gFrames_l.getD (k).toNat frm0).gGuarded), .slice ((d.gFrames_l.getD (k).toNat frm0).gSignals_a) ((d.gFrames_l.getD (k).toNat frm0).gSignals_n) ((d.gFrames_l.getD (k).toNat frm0).gSignals_c)] 34, box b1 [.slice d.gFrames_a d.gFrames_n d.gFrames_c] 24] w5 → (k - i).toNat = mm_ → J Tryd.prog 72 72 R K72_25 [(6, .int .i64 i), (5, .pointer (some ⟨b2, 0, none⟩)), (2, .pointer (some ⟨b1, 0, none⟩)), (1, .int .i64 k)] w5 := by
  intro mm1
  induction mm1 using Nat.strongRecOn with
  | _ mm1 ih1 =>
  intro i w5 h0 h1 hq S5 hm1
  refine J.run 7 K72_26 [(49, .bool (decide (i < k))), (6, .int .i64 i), (5, .pointer (some ⟨b2, 0, none⟩)), (2, .pointer (some ⟨b1, 0, none⟩)), (1, .int .i64 k)] w5 (by kernel_rfl) ?_
  by_cases fk9 : i < k
  rotate_left
  ·skip
   refine J.head (.bool false) (congrArg Value.bool (decide_eq_false fk9)) ?_
   refine J.run 6 K72_31 [(4, .int .i64 0)] w5 (by kernel_rfl) ?_
   refine J.ret Tryd.f72 [.int .i64 0] Tryd.func72 ⟨by kernel_rfl, trivial⟩ ?_
   refine hR _ _ ?_
   exact ⟨congrArg (Value.int .i64) (hd0 fk1 (bad_no (by omega) (by omega) (.inr (by omega))) (by omega) (take_any_no frm0 (by omega) fun j hj => hq j (by omega))).symm, S5.nil⟩
  refine J.head (.bool true) (congrArg Value.bool (decide_eq_true fk9)) ?_
  refine J.run 5 K72_27 [(6, .int .i64 i), (5, .pointer (some ⟨b2, 0, none⟩)), (2, .pointer (some ⟨b1, 0, none⟩)), (1, .int .i64 k)] w5 (by kernel_rfl) ?_
  rcases Bool.eq_false_or_eq_true (((d.gFrames_l.getD (i).toNat frm0).gName).toList == ((d.gFrames_l.getD (k).toNat frm0).gName).toList) with fk10 | fk10
  ·skip
   obtain ⟨p2, hp2, hc2⟩ := q2.at frm0 (i).toNat (by omega)
   have hel2 := getD_Q q3 frm0 (n := (i).toNat) (by have := q2.len_eq; omega)
   obtain ⟨q10, q11, q12, q13, q14, q15, _⟩ := id hel2
   have ql3 := q14.len_eq
   refine J.drawStill S5 20 Tryd.mixed (by kernel_rfl) (by kernel_rfl) (by kernel_rfl) ?_
   intro w6 S6
   refine SL.ok (by decide) (OK.run 52 (.pointer (some ⟨b1, 0, none⟩)) (by kernel_rfl)) ?_
   refine SL.ok (by decide) (OK.ldBox S6 1 53 22 0 (.slice d.gFrames_a d.gFrames_n d.gFrames_c) (by kernel_rfl) rfl (by kernel_rfl)) ?_
   refine SL.ok (by decide) (OK.run 54 (.int .i64 i) (by kernel_rfl)) ?_
   refine SL.ok (by decide) (OK.index 55 22 5 d.gFrames_a p2 d.gFrames_n (i).toNat i (p2.add ((i).toNat * 5)) (by kernel_rfl) (by kernel_rfl) hp2 (by omega) (by omega) rfl) ?_
   refine SL.ok (by decide) (OK.run 56 (.pointer (some ((p2.add ((i).toNat * 5)).add 0))) (by kernel_rfl)) ?_
   refine SL.ok (by decide) (OK.ldCell 57 9 ((p2.add ((i).toNat * 5)).add 0) (.string ((d.gFrames_l.getD (i).toNat frm0).gName)) (by kernel_rfl) (by kernel_rfl) (S6.cell (hc2 0 _ rfl))) ?_
   refine SL.ok (by decide) (OK.run 58 (.pointer (some ⟨b2, 0, none⟩)) (by kernel_rfl)) ?_
   refine SL.ok (by decide) (OK.ldBox S6 0 59 9 0 (.string ((d.gFrames_l.getD (k).toNat frm0).gName)) (by kernel_rfl) rfl (by kernel_rfl)) ?_
   refine SL.ok (by decide) (OK.run 60 (.bool (((d.gFrames_l.getD (i).toNat frm0).gName).toList == ((d.gFrames_l.getD (k).toNat frm0).gName).toList)) (by kernel_rfl)) ?_
   refine SL.head (.bool true) (congrArg Value.bool fk10) ?_
   refine SL.ok (by decide) (OK.run 61 (.bool true) (by kernel_rfl)) ?_
   refine SL.pass (d := some 62) (by decide) (by kernel_rfl) ?_
   refine SL.pass (d := some 63) (by decide) (by kernel_rfl) ?_
   refine SL.pass (d := some 64) (by decide) (by kernel_rfl) ?_
   refine SL.pass (d := some 65) (by decide) (by kernel_rfl) ?_
   refine SL.pass (d := some 66) (by decide) (by kernel_rfl) ?_
   refine SL.pass (d := some 67) (by decide) (by kernel_rfl) ?_
   refine SL.pass (d := some 68) (by decide) (by kernel_rfl) ?_
   refine SL.pass (d := some 69) (by decide) (by kernel_rfl) ?_
   refine SL.pass (d := some 70) (by decide) (by kernel_rfl) ?_
   refine SL.ok (by decide) (OK.run 71 (.bool true) (by kernel_rfl)) ?_
   refine SL.done ?_
   refine TL.done (by kernel_rfl) ?_
   refine J.run 0 (rRest K72_27) [(71, .bool true), (6, .int .i64 i), (5, .pointer (some ⟨b2, 0, none⟩)), (2, .pointer (some ⟨b1, 0, none⟩)), (1, .int .i64 k)] w6 (by kernel_rfl) ?_
   refine J.run 5 K72_28 [(4, .int .i64 8)] w6 (by kernel_rfl) ?_
   refine J.ret Tryd.f72 [.int .i64 8] Tryd.func72 ⟨by kernel_rfl, trivial⟩ ?_
   refine hR _ _ ?_
   exact ⟨congrArg (Value.int .i64) (hd8 fk1 (bad_no (by omega) (by omega) (.inr (by omega))) (by omega) (take_any_yes (j := i.toNat) frm0 (by omega) (by omega) (by unfold twinB eqT; first | (rw [fk10]; rfl) | (rw [fk10]; simp)))).symm, S6.nil⟩
  obtain ⟨p3, hp3, hc3⟩ := q2.at frm0 (i).toNat (by omega)
  have hel3 := getD_Q q3 frm0 (n := (i).toNat) (by have := q2.len_eq; omega)
  obtain ⟨q16, q17, q18, q19, q20, q21, _⟩ := id hel3
  have ql4 := q20.len_eq
  refine J.drawStill S5 20 Tryd.mixed (by kernel_rfl) (by kernel_rfl) (by kernel_rfl) ?_
  intro w7 S7
  refine SL.ok (by decide) (OK.run 52 (.pointer (some ⟨b1, 0, none⟩)) (by kernel_rfl)) ?_
  refine SL.ok (by decide) (OK.ldBox S7 1 53 22 0 (.slice d.gFrames_a d.gFrames_n d.gFrames_c) (by kernel_rfl) rfl (by kernel_rfl)) ?_
  refine SL.ok (by decide) (OK.run 54 (.int .i64 i) (by kernel_rfl)) ?_
  refine SL.ok (by decide) (OK.index 55 22 5 d.gFrames_a p3 d.gFrames_n (i).toNat i (p3.add ((i).toNat * 5)) (by kernel_rfl) (by kernel_rfl) hp3 (by omega) (by omega) rfl) ?_
  refine SL.ok (by decide) (OK.run 56 (.pointer (some ((p3.add ((i).toNat * 5)).add 0))) (by kernel_rfl)) ?_
  refine SL.ok (by decide) (OK.ldCell 57 9 ((p3.add ((i).toNat * 5)).add 0) (.string ((d.gFrames_l.getD (i).toNat frm0).gName)) (by kernel_rfl) (by kernel_rfl) (S7.cell (hc3 0 _ rfl))) ?_
  refine SL.ok (by decide) (OK.run 58 (.pointer (some ⟨b2, 0, none⟩)) (by kernel_rfl)) ?_
  refine SL.ok (by decide) (OK.ldBox S7 0 59 9 0 (.string ((d.gFrames_l.getD (k).toNat frm0).gName)) (by kernel_rfl) rfl (by kernel_rfl)) ?_
  refine SL.ok (by decide) (OK.run 60 (.bool (((d.gFrames_l.getD (i).toNat frm0).gName).toList == ((d.gFrames_l.getD (k).toNat frm0).gName).toList)) (by kernel_rfl)) ?_
  refine SL.head (.bool false) (congrArg Value.bool fk10) ?_
  refine SL.ok (by decide) (OK.run 61 (.bool false) (by kernel_rfl)) ?_
  refine SL.ok (by decide) (OK.run 62 (.pointer (some ⟨b1, 0, none⟩)) (by kernel_rfl)) ?_
  refine SL.ok (by decide) (OK.ldBox S7 1 63 22 0 (.slice d.gFrames_a d.gFrames_n d.gFrames_c) (by kernel_rfl) rfl (by kernel_rfl)) ?_
  refine SL.ok (by decide) (OK.run 64 (.int .i64 i) (by kernel_rfl)) ?_
  refine SL.ok (by decide) (OK.index 65 22 5 d.gFrames_a p3 d.gFrames_n (i).toNat i (p3.add ((i).toNat * 5)) (by kernel_rfl) (by kernel_rfl) hp3 (by omega) (by omega) rfl) ?_
  refine SL.ok (by decide) (OK.run 66 (.pointer (some ((p3.add ((i).toNat * 5)).add 1))) (by kernel_rfl)) ?_
  refine SL.ok (by decide) (OK.ldCell 67 3 ((p3.add ((i).toNat * 5)).add 1) (.int .i64 ((d.gFrames_l.getD (i).toNat frm0).gID)) (by kernel_rfl) (by kernel_rfl) (S7.cell (hc3 1 _ rfl))) ?_
  refine SL.ok (by decide) (OK.run 68 (.pointer (some ⟨b2, 1, none⟩)) (by kernel_rfl)) ?_
  refine SL.ok (by decide) (OK.ldBox S7 0 69 3 1 (.int .i64 ((d.gFrames_l.getD (k).toNat frm0).gID)) (by kernel_rfl) rfl (by kernel_rfl)) ?_
  refine SL.ok (by decide) (OK.run 70 (.bool (((d.gFrames_l.getD (i).toNat frm0).gID) == ((d.gFrames_l.getD (k).toNat frm0).gID))) (by kernel_rfl)) ?_
  refine SL.ok (by decide) (OK.run 71 (.bool (((d.gFrames_l.getD (i).toNat frm0).gID) == ((d.gFrames_l.getD (k).toNat frm0).gID))) (by kernel_rfl)) ?_
  refine SL.done ?_
  refine TL.done (by kernel_rfl) ?_
  refine J.run 0 (rRest K72_27) [(71, .bool (((d.gFrames_l.getD (i).toNat frm0).gID) == ((d.gFrames_l.getD (k).toNat frm0).gID))), (6, .int .i64 i), (5, .pointer (some ⟨b2, 0, none⟩)), (2, .pointer (some ⟨b1, 0, none⟩)), (1, .int .i64 k)] w7 (by kernel_rfl) ?_
  by_cases fk11 : ((d.gFrames_l.getD (i).toNat frm0).gID) = ((d.gFrames_l.getD (k).toNat frm0).gID)
  ·skip
   refine J.head (.bool true) (congrArg Value.bool (beq_iff_eq.2 fk11)) ?_
   refine J.run 5 K72_29 [(4, .int .i64 8)] w7 (by kernel_rfl) ?_
   refine J.ret Tryd.f72 [.int .i64 8] Tryd.func72 ⟨by kernel_rfl, trivial⟩ ?_
   refine hR _ _ ?_
   exact ⟨congrArg (Value.int .i64) (hd8 fk1 (bad_no (by omega) (by omega) (.inr (by omega))) (by omega) (take_any_yes (j := i.toNat) frm0 (by omega) (by omega) (by unfold twinB eqT; first | (rw [fk10]; rfl) | (rw [(beq_iff_eq.2 fk11)]; simp)))).symm, S7.nil⟩
  refine J.head (.bool false) (congrArg Value.bool (beq_eq_false_iff_ne.2 fk11)) ?_
  refine J.run 6 K72_30 [(51, .int .i64 (IntKind.wrap .i64 (i + 1))), (5, .pointer (some ⟨b2, 0, none⟩)), (2, .pointer (some ⟨b1, 0, none⟩)), (1, .int .i64 k)] w7 (by kernel_rfl) ?_
  refine J.head (.int .i64 (i + 1)) (congrArg (Value.int .i64) (IntWalk.i64_in _ (by omega))) ?_
  refine J.run 3 K72_25 [(6, .int .i64 (i + 1)), (5, .pointer (some ⟨b2, 0, none⟩)), (2, .pointer (some ⟨b1, 0, none⟩)), (1, .int .i64 k)] w7 (by kernel_rfl) ?_
  refine J.run 0 K72_25 [(6, .int .i64 (i + 1)), (5, .pointer (some ⟨b2, 0, none⟩)), (2, .pointer (some ⟨b1, 0, none⟩)), (1, .int .i64 k)] w7 (by kernel_rfl) ?_
  exact ih1 _ (show (k - (i + 1)).toNat < mm1 from by omega) (i + 1) w7 (by omega) (by omega) (all_step h0 hq (by unfold twinB eqT; rw [fk10, (beq_eq_false_iff_ne.2 fk11)]; rfl)) S7 rfl
 exact L72_1 _ 0 w4 (by omega) (by omega) (by intro j hj; simp at hj) S4 rfl

theorem hb73 : HasBody Tryd.prog 73 := fun _ _ => by kernel_rfl
def K73_0 := adv 2 [] (bodyOf Tryd.f73)
def K73_1 := adv 5 [] (popK K73_0)
def K73_2 := adv 1 [] (popK K73_1)
def K73_3 := adv 4 [] (popK (popK (popK (popK K73_2))))
def K73_4 := adv 2 [] (popK (popK K73_3))
def K73_5 := adv 4 [false] K73_4
def K73_6 := adv 9 [] (popK (popK K73_5))
def K73_7 := adv 8 [] K73_6
def K73_8 := adv 5 [true] K73_7
def K73_9 := adv 5 [true] (rRest K73_8)
def K73_10 := adv 5 [true] (rRest K73_8)
def K73_11 := adv 6 [false] (rRest K73_8)
def K73_12 := adv 6 [false] (rRest K73_8)
def K73_13 := adv 9 [false] K73_7
def K73_14 := adv 7 [] K73_13
def K73_15 := adv 6 [true] K73_14
def K73_16 := adv 5 [true] (rRest K73_15)
def K73_17 := adv 5 [false] (rRest K73_15)
def K73_18 := adv 1 [] (popK K73_17)
def K73_19 := adv 8 [] (popK (popK (popK K73_18)))
def K73_20 := adv 8 [] K73_19
def K73_21 := adv 9 [true] K73_20
def K73_22 := adv 1 [] (popK (popK (popK K73_21)))
def K73_23 := adv 5 [true] K73_22
def K73_24 := adv 6 [false] K73_22
def K73_25 := adv 6 [false] K73_20
def K73_26 := adv 6 [false] K73_14
def K73_27 := adv 5 [true] K73_4
set_option maxRecDepth 20000 in
set_option maxHeartbeats 20000000 in
theorem part_any (f : Frm) (k : Int) (w : World) (hf : frmQ w f) (hL : 1 ≤ f.gLength ∧ f.gLength ≤ 8) (hk : 0 ≤ k ∧ k < (f.gSignals_n : Int)) : Ret Tryd.prog 73 #[.agg #[.string f.gName, .int .i64 f.gID, .int .i64 f.gLength, .bool f.gGuarded, .slice f.gSignals_a f.gSignals_n f.gSignals_c], .int .i64 k] w (fun v w' => v = .int .i64 (sigErr f k.toNat) ∧ Sep w [] w') := by
 have S0 := Sep.refl w
 refine Ret.named fun R hR => ?_
 refine Ret.of_J (N := 78) [(0, .agg #[.string f.gName, .int .i64 f.gID, .int .i64 f.gLength, .bool f.gGuarded, .slice f.gSignals_a f.gSignals_n f.gSignals_c]), (1, .int .i64 k)] Tryd.func73 rfl rfl (Nat.le_of_ble_eq_true (by kernel_rfl)) (by kernel_rfl) ?_
 obtain ⟨q1, q2, q3, q4, q5, q6, _⟩ := id hf
 have ql1 := q5.len_eq
 refine J.run 2 K73_0 [(0, .agg #[.string f.gName, .int .i64 f.gID, .int .i64 f.gLength, .bool f.gGuarded, .slice f.gSignals_a f.gSignals_n f.gSignals_c]), (1, .int .i64 k)] w (by kernel_rfl) ?_
 refine J.new S0 2 [.string f.gName, .int .i64 f.gID, .int .i64 f.gLength, .bool f.gGuarded, .slice f.gSignals_a f.gSignals_n f.gSignals_c] 34 (by kernel_rfl) ?_
 intro b1 w1 S1
 refine J.run 5 K73_1 [(11, .pointer (some ⟨b1, 4, none⟩)), (2, .pointer (some ⟨b1, 0, none⟩)), (1, .int .i64 k)] w1 (by kernel_rfl) ?_
 refine J.ok (OK.ldBox S1 0 12 32 4 (.slice f.gSignals_a f.gSignals_n f.gSignals_c) (by kernel_rfl) rfl (by kernel_rfl)) ?_
 refine J.run 1 K73_2 [(13, .int .i64 k), (12, .slice f.gSignals_a f.gSignals_n f.gSignals_c), (2, .pointer (some ⟨b1, 0, none⟩)), (1, .int .i64 k)] w1 (by kernel_rfl) ?_
 obtain ⟨p1, hp1, hc1⟩ := q5.at sig0 (k).toNat (by omega)
 have hel1 := getD_Q q6 sig0 (n := (k).toNat) (by have := q5.len_eq; omega)
 obtain ⟨q7, q8, q9, q10, q11, q12, q13, q14, _⟩ := id hel1
 refine J.ok (OK.index 14 32 10 f.gSignals_a p1 f.gSignals_n (k).toNat k (p1.add ((k).toNat * 10)) (by kernel_rfl) (by kernel_rfl) hp1 (by omega) (by omega) rfl) ?_
 refine J.ok (OK.ldCells 15 57 (p1.add ((k).toNat * 10)) [.string ((f.gSignals_l.getD (k).toNat sig0).gName), .int .i64 ((f.gSignals_l.getD (k).toNat sig0).gStart), .int .i64 ((f.gSignals_l.getD (k).toNat sig0).gLength), .bool ((f.gSignals_l.getD (k).toNat sig0).gMotorola), .bool ((f.gSignals_l.getD (k).toNat sig0).gSigned), .int .i64 ((f.gSignals_l.getD (k).toNat sig0).gNum), .int .i64 ((f.gSignals_l.getD (k).toNat sig0).gOff), .int .i64 ((f.gSignals_l.getD (k).toNat sig0).gDen), .int .i64 ((f.gSignals_l.getD (k).toNat sig0).gLow), .int .i64 ((f.gSignals_l.getD (k).toNat sig0).gHigh)] (by kernel_rfl) (by kernel_rfl) (by kernel_rfl) (fun j_ v_ hj_ => S1.cell (hc1 j_ v_ hj_))) ?_
 refine J.new S1 5 [.string ByteArray.empty, .int .i64 0, .int .i64 0, .bool false, .bool false, .int .i64 0, .int .i64 0, .int .i64 0, .int .i64 0, .int .i64 0] 57 (by kernel_rfl) ?_
 intro b2 w2 S2
 refine J.stBox S2 0 57 0 (.agg #[.string ((f.gSignals_l.getD (k).toNat sig0).gName), .int .i64 ((f.gSignals_l.getD (k).toNat sig0).gStart), .int .i64 ((f.gSignals_l.getD (k).toNat sig0).gLength), .bool ((f.gSignals_l.getD (k).toNat sig0).gMotorola), .bool ((f.gSignals_l.getD (k).toNat sig0).gSigned), .int .i64 ((f.gSignals_l.getD (k).toNat sig0).gNum), .int .i64 ((f.gSignals_l.getD (k).toNat sig0).gOff), .int .i64 ((f.gSignals_l.getD (k).toNat sig0).gDen), .int .i64 ((f.gSignals_l.getD (k).toNat sig0).gLow), .int .i64 ((f.gSignals_l.getD (k).toNat sig0).gHigh)]) [.string ((f.gSignals_l.getD (k).toNat sig0).gName), .int .i64 ((f.gSignals_l.getD (k).toNat sig0).gStart), .int .i64 ((f.gSignals_l.getD (k).toNat sig0).gLength), .bool ((f.gSignals_l.getD (k).toNat sig0).gMotorola), .bool ((f.gSignals_l.getD (k).toNat sig0).gSigned), .int .i64 ((f.gSignals_l.getD (k).toNat sig0).gNum), .int .i64 ((f.gSignals_l.getD (k).toNat sig0).gOff), .int .i64 ((f.gSignals_l.getD (k).toNat sig0).gDen), .int .i64 ((f.gSignals_l.getD (k).toNat sig0).gLow), .int .i64 ((f.gSignals_l.getD (k).toNat sig0).gHigh)] [box b2 [.string ((f.gSignals_l.getD (k).toNat sig0).gName), .int .i64 ((f.gSignals_l.getD (k).toNat sig0).gStart), .int .i64 ((f.gSignals_l.getD (k).toNat sig0).gLength), .bool ((f.gSignals_l.getD (k).toNat sig0).gMotorola), .bool ((f.gSignals_l.getD (k).toNat sig0).gSigned), .int .i64 ((f.gSignals_l.getD (k).toNat sig0).gNum), .int .i64 ((f.gSignals_l.getD (k).toNat sig0).gOff), .int .i64 ((f.gSignals_l.getD (k).toNat sig0).gDen), .int .i64 ((f.gSignals_l.getD (k).toNat sig0).gLow), .int .i64 ((f.gSignals_l.getD (k).toNat sig0).gHigh)] 57, box b1 [.string f.gName, .int .i64 f.gID, .int .i64 f.gLength, .bool f.gGuarded, .slice f.gSignals_a f.gSignals_n f.gSignals_c] 34] (by kernel_rfl) rfl (by kernel_rfl) (by kernel_rfl) rfl ?_
 intro w3 S3
 refine J.run 4 K73_3 [(5, .pointer (some ⟨b2, 0, none⟩)), (2, .pointer (some ⟨b1, 0, none⟩)), (1, .int .i64 k)] w3 (by kernel_rfl) ?_
 refine J.ok (OK.ldBox S3 0 16 57 0 (.agg #[.string ((f.gSignals_l.getD (k).toNat sig0).gName), .int .i64 ((f.gSignals_l.getD (k).toNat sig0).gStart), .int .i64 ((f.gSignals_l.getD (k).toNat sig0).gLength), .bool ((f.gSignals_l.getD (k).toNat sig0).gMotorola), .bool ((f.gSignals_l.getD (k).toNat sig0).gSigned), .int .i64 ((f.gSignals_l.getD (k).toNat sig0).gNum), .int .i64 ((f.gSignals_l.getD (k).toNat sig0).gOff), .int .i64 ((f.gSignals_l.getD (k).toNat sig0).gDen), .int .i64 ((f.gSignals_l.getD (k).toNat sig0).gLow), .int .i64 ((f.gSignals_l.getD (k).toNat sig0).gHigh)]) (by kernel_rfl) rfl (by kernel_rfl)) ?_
 refine J.callF 17 88 #[.agg #[.string ((f.gSignals_l.getD (k).toNat sig0).gName), .int .i64 ((f.gSignals_l.getD (k).toNat sig0).gStart), .int .i64 ((f.gSignals_l.getD (k).toNat sig0).gLength), .bool ((f.gSignals_l.getD (k).toNat sig0).gMotorola), .bool ((f.gSignals_l.getD (k).toNat sig0).gSigned), .int .i64 ((f.gSignals_l.getD (k).toNat sig0).gNum), .int .i64 ((f.gSignals_l.getD (k).toNat sig0).gOff), .int .i64 ((f.gSignals_l.getD (k).toNat sig0).gDen), .int .i64 ((f.gSignals_l.getD (k).toNat sig0).gLow), .int .i64 ((f.gSignals_l.getD (k).toNat sig0).gHigh)]] hb88 (by kernel_rfl) (rsignal_rec (f.gSignals_l.getD (k).toNat sig0) _ (sigQ_sep hel1 S3)) ?_
 rintro _ w4 ⟨rfl, T1⟩
 have S4 : Sep w [box b2 [.string ((f.gSignals_l.getD (k).toNat sig0).gName), .int .i64 ((f.gSignals_l.getD (k).toNat sig0).gStart), .int .i64 ((f.gSignals_l.getD (k).toNat sig0).gLength), .bool ((f.gSignals_l.getD (k).toNat sig0).gMotorola), .bool ((f.gSignals_l.getD (k).toNat sig0).gSigned), .int .i64 ((f.gSignals_l.getD (k).toNat sig0).gNum), .int .i64 ((f.gSignals_l.getD (k).toNat sig0).gOff), .int .i64 ((f.gSignals_l.getD (k).toNat sig0).gDen), .int .i64 ((f.gSignals_l.getD (k).toNat sig0).gLow), .int .i64 ((f.gSignals_l.getD (k).toNat sig0).gHigh)] 57, box b1 [.string f.gName, .int .i64 f.gID, .int .i64 f.gLength, .bool f.gGuarded, .slice f.gSignals_a f.gSignals_n f.gSignals_c] 34] w4 := S3.trans T1
 clear T1 S3
 refine J.run 2 K73_4 [(18, .bool (!(sigOK (f.gSignals_l.getD (k).toNat sig0)))), (5, .pointer (some ⟨b2, 0, none⟩)), (2, .pointer (some ⟨b1, 0, none⟩)), (1, .int .i64 k)] w4 (by kernel_rfl) ?_
 rcases Bool.eq_false_or_eq_true (sigOK (f.gSignals_l.getD (k).toNat sig0)) with fk1 | fk1
 rotate_left
 ·skip
  refine J.head (.bool true) (congrArg Value.bool (by rw [fk1]; rfl)) ?_
  refine J.run 5 K73_27 [(4, .int .i64 1)] w4 (by kernel_rfl) ?_
  refine J.ret Tryd.f73 [.int .i64 1] Tryd.func73 ⟨by kernel_rfl, trivial⟩ ?_
  refine hR _ _ ?_
  exact ⟨congrArg (Value.int .i64) (sig_e1 fk1).symm, S4.nil⟩
 refine J.head (.bool false) (congrArg Value.bool (by rw [fk1]; rfl)) ?_
 refine J.run 4 K73_5 [(5, .pointer (some ⟨b2, 0, none⟩)), (2, .pointer (some ⟨b1, 0, none⟩)), (1, .int .i64 k)] w4 (by kernel_rfl) ?_
 refine J.ok (OK.ldBox S4 0 19 57 0 (.agg #[.string ((f.gSignals_l.getD (k).toNat sig0).gName), .int .i64 ((f.gSignals_l.getD (k).toNat sig0).gStart), .int .i64 ((f.gSignals_l.getD (k).toNat sig0).gLength), .bool ((f.gSignals_l.getD (k).toNat sig0).gMotorola), .bool ((f.gSignals_l.getD (k).toNat sig0).gSigned), .int .i64 ((f.gSignals_l.getD (k).toNat sig0).gNum), .int .i64 ((f.gSignals_l.getD (k).toNat sig0).gOff), .int .i64 ((f.gSignals_l.getD (k).toNat sig0).gDen), .int .i64 ((f.gSignals_l.getD (k).toNat sig0).gLow), .int .i64 ((f.gSignals_l.getD (k).toNat sig0).gHigh)]) (by kernel_rfl) rfl (by kernel_rfl)) ?_
 refine J.callF 20 89 #[.agg #[.string ((f.gSignals_l.getD (k).toNat sig0).gName), .int .i64 ((f.gSignals_l.getD (k).toNat sig0).gStart), .int .i64 ((f.gSignals_l.getD (k).toNat sig0).gLength), .bool ((f.gSignals_l.getD (k).toNat sig0).gMotorola), .bool ((f.gSignals_l.getD (k).toNat sig0).gSigned), .int .i64 ((f.gSignals_l.getD (k).toNat sig0).gNum), .int .i64 ((f.gSignals_l.getD (k).toNat sig0).gOff), .int .i64 ((f.gSignals_l.getD (k).toNat sig0).gDen), .int .i64 ((f.gSignals_l.getD (k).toNat sig0).gLow), .int .i64 ((f.gSignals_l.getD (k).toNat sig0).gHigh)]] hb89 (by kernel_rfl) (rbits_rec (f.gSignals_l.getD (k).toNat sig0) _ (sigQ_sep hel1 S4)) ?_
 rintro _ w5 ⟨ra1, rc1, rfl, T2⟩
 have S5 : Sep w [rowOf encI ra1 rc1 3 1 (sbits (f.gSignals_l.getD (k).toNat sig0)), box b2 [.string ((f.gSignals_l.getD (k).toNat sig0).gName), .int .i64 ((f.gSignals_l.getD (k).toNat sig0).gStart), .int .i64 ((f.gSignals_l.getD (k).toNat sig0).gLength), .bool ((f.gSignals_l.getD (k).toNat sig0).gMotorola), .bool ((f.gSignals_l.getD (k).toNat sig0).gSigned), .int .i64 ((f.gSignals_l.getD (k).toNat sig0).gNum), .int .i64 ((f.gSignals_l.getD (k).toNat sig0).gOff), .int .i64 ((f.gSignals_l.getD (k).toNat sig0).gDen), .int .i64 ((f.gSignals_l.getD (k).toNat sig0).gLow), .int .i64 ((f.gSignals_l.getD (k).toNat sig0).gHigh)] 57, box b1 [.string f.gName, .int .i64 f.gID, .int .i64 f.gLength, .bool f.gGuarded, .slice f.gSignals_a f.gSignals_n f.gSignals_c] 34] w5 := S4.trans T2
 clear T2 S4
 have := sbits_len (f.gSignals_l.getD (k).toNat sig0)
 refine J.run 9 K73_6 [(7, .int .i64 0), (6, .slice ra1 ((sbits (f.gSignals_l.getD (k).toNat sig0)).length) rc1), (5, .pointer (some ⟨b2, 0, none⟩)), (2, .pointer (some ⟨b1, 0, none⟩)), (1, .int .i64 k)] w5 (by kernel_rfl) ?_
 have L73_1 : ∀ (mm_ : Nat) (i : Int) (w6 : World), (0 ≤ i) → (i ≤ ((sbits (f.gSignals_l.getD (k).toNat sig0)).length : Int)) → (∀ j, j < (i).toNat → outB f ((sbits (f.gSignals_l.getD (k).toNat sig0)).getD j 0) = false) → Sep w [rowOf encI ra1 rc1 3 1 (sbits (f.gSignals_l.getD (k).toNat sig0)), box b2 [.string ((f.gSignals_l.getD (k).toNat sig0).gName), .int .i64 ((f.gSignals_l.getD (k).toNat sig0).gStart), .int .i64 ((f.gSignals_l.getD (k).toNat sig0).gLength), .bool ((f.gSignals_l.getD (k).toNat sig0).gMotorola), .bool ((f.gSignals_l.getD (k).toNat sig0).gSigned), .int .i64 ((f.gSignals_l.getD (k).toNat sig0).gNum), .int .i64 ((f.gSignals_l.getD (k).toNat sig0).gOff), .int .i64 ((f.gSignals_l.getD (k).toNat sig0).gDen), .int .i64 ((f.gSignals_l.getD (k).toNat sig0).gLow), .int .i64 ((f.gSignals_l.getD (k).toNat sig0).gHigh)] 57, box b1 [.string f.gName, .int .i64 f.gID, .int .i64 f.gLength, .bool f.gGuarded, .slice f.gSignals_a f.gSignals_n f.gSignals_c] 34] w6 → (((sbits (f.gSignals_l.getD (k).toNat sig0)).length : Int) - i).toNat = mm_ → J Tryd.prog 73 78 R K73_6 [(7, .int .i64 i), (6, .slice ra1 ((sbits (f.gSignals_l.getD (k).toNat sig0)).length) rc1), (5, .pointer (some ⟨b2, 0, none⟩)), (2, .pointer (some ⟨b1, 0, none⟩)), (1, .int .i64 k)] w6 := by
  intro mm1
  induction mm1 using Nat.strongRecOn with
  | _ mm1 ih1 =>
  intro i w6 h0 h1 hin S6 hm1
  refine J.run 8 K73_7 [(24, .bool (decide (i < ((sbits (f.gSignals_l.getD (k).toNat sig0)).length : Int)))), (7, .int .i64 i), (6, .slice ra1 ((sbits (f.gSignals_l.getD (k).toNat sig0)).length) rc1), (5, .pointer (some ⟨b2, 0, none⟩)), (2, .pointer (some ⟨b1, 0, none⟩)), (1, .int .i64 k)] w6 (by kernel_rfl) ?_
  by_cases fk2 : i < ((sbits (f.gSignals_l.getD (k).toNat sig0)).length : Int)
  ·skip
   refine J.head (.bool true) (congrArg Value.bool (decide_eq_true fk2)) ?_
   refine J.run 5 K73_8 [(7, .int .i64 i), (6, .slice ra1 ((sbits (f.gSignals_l.getD (k).toNat sig0)).length) rc1), (5, .pointer (some ⟨b2, 0, none⟩)), (2, .pointer (some ⟨b1, 0, none⟩)), (1, .int .i64 k)] w6 (by kernel_rfl) ?_
   by_cases fk3 : ((sbits (f.gSignals_l.getD (k).toNat sig0)).getD (i).toNat 0) ≥ (8 * f.gLength)
   ·skip
    obtain ⟨p2, hp2⟩ := row1_addr (S6.nth 0 rfl) (show 0 < (sbits (f.gSignals_l.getD (k).toNat sig0)).length by first | omega | (simp; omega))
    refine J.drawStill S6 19 Tryd.mixed (by kernel_rfl) (by kernel_rfl) (by kernel_rfl) ?_
    intro w7 S7
    refine SL.ok (by decide) (OK.run 27 (.slice ra1 ((sbits (f.gSignals_l.getD (k).toNat sig0)).length) rc1) (by kernel_rfl)) ?_
    refine SL.ok (by decide) (OK.run 28 (.int .i64 i) (by kernel_rfl)) ?_
    refine SL.ok (by decide) (OK.index 29 59 1 ra1 p2 ((sbits (f.gSignals_l.getD (k).toNat sig0)).length) (i).toNat i (p2.add (i).toNat) (by kernel_rfl) (by kernel_rfl) hp2 (by omega) (by first | omega | (simp; omega)) (by rw [Nat.mul_one])) ?_
    refine SL.ok (by decide) (OK.ldCell 30 3 (p2.add (i).toNat) (.int .i64 ((sbits (f.gSignals_l.getD (k).toNat sig0)).getD (i).toNat 0)) (by kernel_rfl) (by kernel_rfl) (row1_cell (g := (Value.int .i64)) S7 0 rfl hp2 0 (i).toNat (by first | omega | (simp; omega)))) ?_
    refine SL.ok (by decide) (OK.run 31 (.pointer (some ⟨b1, 2, none⟩)) (by kernel_rfl)) ?_
    refine SL.ok (by decide) (OK.ldBox S7 2 32 3 2 (.int .i64 f.gLength) (by kernel_rfl) rfl (by kernel_rfl)) ?_
    refine SL.ok (by decide) (OK.run 33 (.int .i64 (IntKind.wrap .i64 (8 * f.gLength))) (by kernel_rfl)) ?_
    refine SL.head (.int .i64 (8 * f.gLength)) (congrArg (Value.int .i64) (IntWalk.i64_in _ (by omega))) ?_
    refine SL.ok (by decide) (OK.run 34 (.bool (decide (((sbits (f.gSignals_l.getD (k).toNat sig0)).getD (i).toNat 0) ≥ (8 * f.gLength)))) (by kernel_rfl)) ?_
    refine SL.head (.bool true) (congrArg Value.bool (decide_eq_true fk3)) ?_
    refine SL.ok (by decide) (OK.run 35 (.bool true) (by kernel_rfl)) ?_
    refine SL.pass (d := some 36) (by decide) (by kernel_rfl) ?_
    refine SL.pass (d := some 37) (by decide) (by kernel_rfl) ?_
    refine SL.pass (d := some 38) (by decide) (by kernel_rfl) ?_
    refine SL.pass (d := some 39) (by decide) (by kernel_rfl) ?_
    refine SL.pass (d := some 40) (by decide) (by kernel_rfl) ?_
    refine SL.pass (d := some 41) (by decide) (by kernel_rfl) ?_
    refine SL.pass (d := some 42) (by decide) (by kernel_rfl) ?_
    refine SL.pass (d := some 43) (by decide) (by kernel_rfl) ?_
    refine SL.pass (d := some 44) (by decide) (by kernel_rfl) ?_
    refine SL.ok (by decide) (OK.run 45 (.bool true) (by kernel_rfl)) ?_
    refine SL.done ?_
    refine TL.done (by kernel_rfl) ?_
    refine J.run 0 (rRest K73_8) [(45, .bool true), (7, .int .i64 i), (6, .slice ra1 ((sbits (f.gSignals_l.getD (k).toNat sig0)).length) rc1), (5, .pointer (some ⟨b2, 0, none⟩)), (2, .pointer (some ⟨b1, 0, none⟩)), (1, .int .i64 k)] w7 (by kernel_rfl) ?_
    refine J.run 5 K73_9 [(4, .int .i64 2)] w7 (by kernel_rfl) ?_
    refine J.ret Tryd.f73 [.int .i64 2] Tryd.func73 ⟨by kernel_rfl, trivial⟩ ?_
    refine hR _ _ ?_
    exact ⟨congrArg (Value.int .i64) (sig_e2 fk1 (any_bits (j := i.toNat) (by omega) (by first | exact out_far (by omega) | exact out_g2 rfl (by omega)))).symm, S7.nil⟩
   rcases Bool.eq_false_or_eq_true f.gGuarded with fk4 | fk4
   rotate_left
   ·skip
    obtain ⟨p4, hp4⟩ := row1_addr (S6.nth 0 rfl) (show 0 < (sbits (f.gSignals_l.getD (k).toNat sig0)).length by first | omega | (simp; omega))
    refine J.drawStill S6 19 Tryd.mixed (by kernel_rfl) (by kernel_rfl) (by kernel_rfl) ?_
    intro w9 S9
    refine SL.ok (by decide) (OK.run 27 (.slice ra1 ((sbits (f.gSignals_l.getD (k).toNat sig0)).length) rc1) (by kernel_rfl)) ?_
    refine SL.ok (by decide) (OK.run 28 (.int .i64 i) (by kernel_rfl)) ?_
    refine SL.ok (by decide) (OK.index 29 59 1 ra1 p4 ((sbits (f.gSignals_l.getD (k).toNat sig0)).length) (i).toNat i (p4.add (i).toNat) (by kernel_rfl) (by kernel_rfl) hp4 (by omega) (by first | omega | (simp; omega)) (by rw [Nat.mul_one])) ?_
    refine SL.ok (by decide) (OK.ldCell 30 3 (p4.add (i).toNat) (.int .i64 ((sbits (f.gSignals_l.getD (k).toNat sig0)).getD (i).toNat 0)) (by kernel_rfl) (by kernel_rfl) (row1_cell (g := (Value.int .i64)) S9 0 rfl hp4 0 (i).toNat (by first | omega | (simp; omega)))) ?_
    refine SL.ok (by decide) (OK.run 31 (.pointer (some ⟨b1, 2, none⟩)) (by kernel_rfl)) ?_
    refine SL.ok (by decide) (OK.ldBox S9 2 32 3 2 (.int .i64 f.gLength) (by kernel_rfl) rfl (by kernel_rfl)) ?_
    refine SL.ok (by decide) (OK.run 33 (.int .i64 (IntKind.wrap .i64 (8 * f.gLength))) (by kernel_rfl)) ?_
    refine SL.head (.int .i64 (8 * f.gLength)) (congrArg (Value.int .i64) (IntWalk.i64_in _ (by omega))) ?_
    refine SL.ok (by decide) (OK.run 34 (.bool (decide (((sbits (f.gSignals_l.getD (k).toNat sig0)).getD (i).toNat 0) ≥ (8 * f.gLength)))) (by kernel_rfl)) ?_
    refine SL.head (.bool false) (congrArg Value.bool (decide_eq_false fk3)) ?_
    refine SL.ok (by decide) (OK.run 35 (.bool false) (by kernel_rfl)) ?_
    refine SL.ok (by decide) (OK.run 36 (.pointer (some ⟨b1, 3, none⟩)) (by kernel_rfl)) ?_
    refine SL.ok (by decide) (OK.ldBox S9 2 37 4 3 (.bool f.gGuarded) (by kernel_rfl) rfl (by kernel_rfl)) ?_
    refine SL.ok (by decide) (OK.run 38 (.bool f.gGuarded) (by kernel_rfl)) ?_
    refine SL.head (.bool false) (congrArg Value.bool fk4) ?_
    refine SL.pass (d := some 39) (by decide) (by kernel_rfl) ?_
    refine SL.pass (d := some 40) (by decide) (by kernel_rfl) ?_
    refine SL.pass (d := some 41) (by decide) (by kernel_rfl) ?_
    refine SL.pass (d := some 42) (by decide) (by kernel_rfl) ?_
    refine SL.pass (d := some 43) (by decide) (by kernel_rfl) ?_
    refine SL.ok (by decide) (OK.run 44 (.bool false) (by kernel_rfl)) ?_
    refine SL.ok (by decide) (OK.run 45 (.bool false) (by kernel_rfl)) ?_
    refine SL.done ?_
    refine TL.done (by kernel_rfl) ?_
    refine J.run 0 (rRest K73_8) [(45, .bool false), (7, .int .i64 i), (6, .slice ra1 ((sbits (f.gSignals_l.getD (k).toNat sig0)).length) rc1), (5, .pointer (some ⟨b2, 0, none⟩)), (2, .pointer (some ⟨b1, 0, none⟩)), (1, .int .i64 k)] w9 (by kernel_rfl) ?_
    refine J.run 6 K73_12 [(26, .int .i64 (IntKind.wrap .i64 (i + 1))), (6, .slice ra1 ((sbits (f.gSignals_l.getD (k).toNat sig0)).length) rc1), (5, .pointer (some ⟨b2, 0, none⟩)), (2, .pointer (some ⟨b1, 0, none⟩)), (1, .int .i64 k)] w9 (by kernel_rfl) ?_
    refine J.head (.int .i64 (i + 1)) (congrArg (Value.int .i64) (IntWalk.i64_in _ (by omega))) ?_
    refine J.run 3 K73_6 [(7, .int .i64 (i + 1)), (6, .slice ra1 ((sbits (f.gSignals_l.getD (k).toNat sig0)).length) rc1), (5, .pointer (some ⟨b2, 0, none⟩)), (2, .pointer (some ⟨b1, 0, none⟩)), (1, .int .i64 k)] w9 (by kernel_rfl) ?_
    refine J.run 0 K73_6 [(7, .int .i64 (i + 1)), (6, .slice ra1 ((sbits (f.gSignals_l.getD (k).toNat sig0)).length) rc1), (5, .pointer (some ⟨b2, 0, none⟩)), (2, .pointer (some ⟨b1, 0, none⟩)), (1, .int .i64 k)] w9 (by kernel_rfl) ?_
    exact ih1 _ (show (((sbits (f.gSignals_l.getD (k).toNat sig0)).length : Int) - (i + 1)).toNat < mm1 from by omega) (i + 1) w9 (by omega) (by omega) (all_step h0 hin (out_no2 (by omega) (.inl fk4))) S9 rfl
   obtain ⟨p3, hp3⟩ := row1_addr (S6.nth 0 rfl) (show 0 < (sbits (f.gSignals_l.getD (k).toNat sig0)).length by first | omega | (simp; omega))
   refine J.drawStill S6 19 Tryd.mixed (by kernel_rfl) (by kernel_rfl) (by kernel_rfl) ?_
   intro w8 S8
   refine SL.ok (by decide) (OK.run 27 (.slice ra1 ((sbits (f.gSignals_l.getD (k).toNat sig0)).length) rc1) (by kernel_rfl)) ?_
   refine SL.ok (by decide) (OK.run 28 (.int .i64 i) (by kernel_rfl)) ?_
   refine SL.ok (by decide) (OK.index 29 59 1 ra1 p3 ((sbits (f.gSignals_l.getD (k).toNat sig0)).length) (i).toNat i (p3.add (i).toNat) (by kernel_rfl) (by kernel_rfl) hp3 (by omega) (by first | omega | (simp; omega)) (by rw [Nat.mul_one])) ?_
   refine SL.ok (by decide) (OK.ldCell 30 3 (p3.add (i).toNat) (.int .i64 ((sbits (f.gSignals_l.getD (k).toNat sig0)).getD (i).toNat 0)) (by kernel_rfl) (by kernel_rfl) (row1_cell (g := (Value.int .i64)) S8 0 rfl hp3 0 (i).toNat (by first | omega | (simp; omega)))) ?_
   refine SL.ok (by decide) (OK.run 31 (.pointer (some ⟨b1, 2, none⟩)) (by kernel_rfl)) ?_
   refine SL.ok (by decide) (OK.ldBox S8 2 32 3 2 (.int .i64 f.gLength) (by kernel_rfl) rfl (by kernel_rfl)) ?_
   refine SL.ok (by decide) (OK.run 33 (.int .i64 (IntKind.wrap .i64 (8 * f.gLength))) (by kernel_rfl)) ?_
   refine SL.head (.int .i64 (8 * f.gLength)) (congrArg (Value.int .i64) (IntWalk.i64_in _ (by omega))) ?_
   refine SL.ok (by decide) (OK.run 34 (.bool (decide (((sbits (f.gSignals_l.getD (k).toNat sig0)).getD (i).toNat 0) ≥ (8 * f.gLength)))) (by kernel_rfl)) ?_
   refine SL.head (.bool false) (congrArg Value.bool (decide_eq_false fk3)) ?_
   refine SL.ok (by decide) (OK.run 35 (.bool false) (by kernel_rfl)) ?_
   refine SL.ok (by decide) (OK.run 36 (.pointer (some ⟨b1, 3, none⟩)) (by kernel_rfl)) ?_
   refine SL.ok (by decide) (OK.ldBox S8 2 37 4 3 (.bool f.gGuarded) (by kernel_rfl) rfl (by kernel_rfl)) ?_
   refine SL.ok (by decide) (OK.run 38 (.bool f.gGuarded) (by kernel_rfl)) ?_
   refine SL.head (.bool true) (congrArg Value.bool fk4) ?_
   refine SL.ok (by decide) (OK.run 39 (.slice ra1 ((sbits (f.gSignals_l.getD (k).toNat sig0)).length) rc1) (by kernel_rfl)) ?_
   refine SL.ok (by decide) (OK.run 40 (.int .i64 i) (by kernel_rfl)) ?_
   refine SL.ok (by decide) (OK.index 41 59 1 ra1 p3 ((sbits (f.gSignals_l.getD (k).toNat sig0)).length) (i).toNat i (p3.add (i).toNat) (by kernel_rfl) (by kernel_rfl) hp3 (by omega) (by first | omega | (simp; omega)) (by rw [Nat.mul_one])) ?_
   refine SL.ok (by decide) (OK.ldCell 42 3 (p3.add (i).toNat) (.int .i64 ((sbits (f.gSignals_l.getD (k).toNat sig0)).getD (i).toNat 0)) (by kernel_rfl) (by kernel_rfl) (row1_cell (g := (Value.int .i64)) S8 0 rfl hp3 0 (i).toNat (by first | omega | (simp; omega)))) ?_
   refine SL.ok (by decide) (OK.run 43 (.bool (decide (((sbits (f.gSignals_l.getD (k).toNat sig0)).getD (i).toNat 0) < 12))) (by kernel_rfl)) ?_
   refine SL.ok (by decide) (OK.run 44 (.bool (decide (((sbits (f.gSignals_l.getD (k).toNat sig0)).getD (i).toNat 0) < 12))) (by kernel_rfl)) ?_
   refine SL.ok (by decide) (OK.run 45 (.bool (decide (((sbits (f.gSignals_l.getD (k).toNat sig0)).getD (i).toNat 0) < 12))) (by kernel_rfl)) ?_
   refine SL.done ?_
   refine TL.done (by kernel_rfl) ?_
   refine J.run 0 (rRest K73_8) [(45, .bool (decide (((sbits (f.gSignals_l.getD (k).toNat sig0)).getD (i).toNat 0) < 12))), (7, .int .i64 i), (6, .slice ra1 ((sbits (f.gSignals_l.getD (k).toNat sig0)).length) rc1), (5, .pointer (some ⟨b2, 0, none⟩)), (2, .pointer (some ⟨b1, 0, none⟩)), (1, .int .i64 k)] w8 (by kernel_rfl) ?_
   by_cases fk5 : ((sbits (f.gSignals_l.getD (k).toNat sig0)).getD (i).toNat 0) < 12
   ·skip
    refine J.head (.bool true) (congrArg Value.bool (decide_eq_true fk5)) ?_
    refine J.run 5 K73_10 [(4, .int .i64 2)] w8 (by kernel_rfl) ?_
    refine J.ret Tryd.f73 [.int .i64 2] Tryd.func73 ⟨by kernel_rfl, trivial⟩ ?_
    refine hR _ _ ?_
    exact ⟨congrArg (Value.int .i64) (sig_e2 fk1 (any_bits (j := i.toNat) (by omega) (by first | exact out_far (by omega) | exact out_g2 fk4 (by omega)))).symm, S8.nil⟩
   refine J.head (.bool false) (congrArg Value.bool (decide_eq_false fk5)) ?_
   refine J.run 6 K73_11 [(26, .int .i64 (IntKind.wrap .i64 (i + 1))), (6, .slice ra1 ((sbits (f.gSignals_l.getD (k).toNat sig0)).length) rc1), (5, .pointer (some ⟨b2, 0, none⟩)), (2, .pointer (some ⟨b1, 0, none⟩)), (1, .int .i64 k)] w8 (by kernel_rfl) ?_
   refine J.head (.int .i64 (i + 1)) (congrArg (Value.int .i64) (IntWalk.i64_in _ (by omega))) ?_
   refine J.run 3 K73_6 [(7, .int .i64 (i + 1)), (6, .slice ra1 ((sbits (f.gSignals_l.getD (k).toNat sig0)).length) rc1), (5, .pointer (some ⟨b2, 0, none⟩)), (2, .pointer (some ⟨b1, 0, none⟩)), (1, .int .i64 k)] w8 (by kernel_rfl) ?_
   refine J.run 0 K73_6 [(7, .int .i64 (i + 1)), (6, .slice ra1 ((sbits (f.gSignals_l.getD (k).toNat sig0)).length) rc1), (5, .pointer (some ⟨b2, 0, none⟩)), (2, .pointer (some ⟨b1, 0, none⟩)), (1, .int .i64 k)] w8 (by kernel_rfl) ?_
   exact ih1 _ (show (((sbits (f.gSignals_l.getD (k).toNat sig0)).length : Int) - (i + 1)).toNat < mm1 from by omega) (i + 1) w8 (by omega) (by omega) (all_step h0 hin (out_no2 (by omega) (.inr (by omega)))) S8 rfl
  refine J.head (.bool false) (congrArg Value.bool (decide_eq_false fk2)) ?_
  refine J.run 9 K73_13 [(8, .int .i64 0), (6, .slice ra1 ((sbits (f.gSignals_l.getD (k).toNat sig0)).length) rc1), (5, .pointer (some ⟨b2, 0, none⟩)), (2, .pointer (some ⟨b1, 0, none⟩)), (1, .int .i64 k)] w6 (by kernel_rfl) ?_
  have L73_2 : ∀ (mm_ : Nat) (i : Int) (w10 : World), (0 ≤ i) → (i ≤ k) → (∀ j, j < (i).toNat → eqT (f.gSignals_l.getD j sig0).gName (f.gSignals_l.getD (k).toNat sig0).gName = false ∧ lapB (f.gSignals_l.getD (k).toNat sig0) (f.gSignals_l.getD j sig0) = false) → Sep w [rowOf encI ra1 rc1 3 1 (sbits (f.gSignals_l.getD (k).toNat sig0)), box b2 [.string ((f.gSignals_l.getD (k).toNat sig0).gName), .int .i64 ((f.gSignals_l.getD (k).toNat sig0).gStart), .int .i64 ((f.gSignals_l.getD (k).toNat sig0).gLength), .bool ((f.gSignals_l.getD (k).toNat sig0).gMotorola), .bool ((f.gSignals_l.getD (k).toNat sig0).gSigned), .int .i64 ((f.gSignals_l.getD (k).toNat sig0).gNum), .int .i64 ((f.gSignals_l.getD (k).toNat sig0).gOff), .int .i64 ((f.gSignals_l.getD (k).toNat sig0).gDen), .int .i64 ((f.gSignals_l.getD (k).toNat sig0).gLow), .int .i64 ((f.gSignals_l.getD (k).toNat sig0).gHigh)] 57, box b1 [.string f.gName, .int .i64 f.gID, .int .i64 f.gLength, .bool f.gGuarded, .slice f.gSignals_a f.gSignals_n f.gSignals_c] 34] w10 → (k - i).toNat = mm_ → J Tryd.prog 73 78 R K73_13 [(8, .int .i64 i), (6, .slice ra1 ((sbits (f.gSignals_l.getD (k).toNat sig0)).length) rc1), (5, .pointer (some ⟨b2, 0, none⟩)), (2, .pointer (some ⟨b1, 0, none⟩)), (1, .int .i64 k)] w10 := by
   intro mm2
   induction mm2 using Nat.strongRecOn with
   | _ mm2 ih2 =>
   intro i w10 h0 h1 hq S10 hm2
   refine J.run 7 K73_14 [(48, .bool (decide (i < k))), (8, .int .i64 i), (6, .slice ra1 ((sbits (f.gSignals_l.getD (k).toNat sig0)).length) rc1), (5, .pointer (some ⟨b2, 0, none⟩)), (2, .pointer (some ⟨b1, 0, none⟩)), (1, .int .i64 k)] w10 (by kernel_rfl) ?_
   by_cases fk6 : i < k
   rotate_left
   ·skip
    refine J.head (.bool false) (congrArg Value.bool (decide_eq_false fk6)) ?_
    refine J.run 6 K73_26 [(4, .int .i64 0)] w10 (by kernel_rfl) ?_
    refine J.ret Tryd.f73 [.int .i64 0] Tryd.func73 ⟨by kernel_rfl, trivial⟩ ?_
    refine hR _ _ ?_
    exact ⟨congrArg (Value.int .i64) (sig_e0 fk1 (none_bits fun j hj => hin j (by omega)) (take_any_no sig0 (by omega) fun j hj => (hq j (by omega)).1) (take_any_no sig0 (by omega) fun j hj => (hq j (by omega)).2)).symm, S10.nil⟩
   refine J.head (.bool true) (congrArg Value.bool (decide_eq_true fk6)) ?_
   refine J.run 6 K73_15 [(8, .int .i64 i), (6, .slice ra1 ((sbits (f.gSignals_l.getD (k).toNat sig0)).length) rc1), (5, .pointer (some ⟨b2, 0, none⟩)), (2, .pointer (some ⟨b1, 0, none⟩)), (1, .int .i64 k)] w10 (by kernel_rfl) ?_
   obtain ⟨p5, hp5, hc2⟩ := q5.at sig0 (i).toNat (by omega)
   have hel2 := getD_Q q6 sig0 (n := (i).toNat) (by have := q5.len_eq; omega)
   obtain ⟨q15, q16, q17, q18, q19, q20, q21, q22, _⟩ := id hel2
   refine J.drawStill S10 9 Tryd.mixed (by kernel_rfl) (by kernel_rfl) (by kernel_rfl) ?_
   intro w11 S11
   refine SL.ok (by decide) (OK.run 51 (.pointer (some ⟨b1, 4, none⟩)) (by kernel_rfl)) ?_
   refine SL.ok (by decide) (OK.ldBox S11 2 52 32 4 (.slice f.gSignals_a f.gSignals_n f.gSignals_c) (by kernel_rfl) rfl (by kernel_rfl)) ?_
   refine SL.ok (by decide) (OK.run 53 (.int .i64 i) (by kernel_rfl)) ?_
   refine SL.ok (by decide) (OK.index 54 32 10 f.gSignals_a p5 f.gSignals_n (i).toNat i (p5.add ((i).toNat * 10)) (by kernel_rfl) (by kernel_rfl) hp5 (by omega) (by omega) rfl) ?_
   refine SL.ok (by decide) (OK.run 55 (.pointer (some ((p5.add ((i).toNat * 10)).add 0))) (by kernel_rfl)) ?_
   refine SL.ok (by decide) (OK.ldCell 56 9 ((p5.add ((i).toNat * 10)).add 0) (.string ((f.gSignals_l.getD (i).toNat sig0).gName)) (by kernel_rfl) (by kernel_rfl) (S11.cell (hc2 0 _ rfl))) ?_
   refine SL.ok (by decide) (OK.run 57 (.pointer (some ⟨b2, 0, none⟩)) (by kernel_rfl)) ?_
   refine SL.ok (by decide) (OK.ldBox S11 1 58 9 0 (.string ((f.gSignals_l.getD (k).toNat sig0).gName)) (by kernel_rfl) rfl (by kernel_rfl)) ?_
   refine SL.ok (by decide) (OK.run 59 (.bool (((f.gSignals_l.getD (i).toNat sig0).gName).toList == ((f.gSignals_l.getD (k).toNat sig0).gName).toList)) (by kernel_rfl)) ?_
   refine SL.done ?_
   refine TL.done (by kernel_rfl) ?_
   refine J.run 0 (rRest K73_15) [(59, .bool (((f.gSignals_l.getD (i).toNat sig0).gName).toList == ((f.gSignals_l.getD (k).toNat sig0).gName).toList)), (8, .int .i64 i), (6, .slice ra1 ((sbits (f.gSignals_l.getD (k).toNat sig0)).length) rc1), (5, .pointer (some ⟨b2, 0, none⟩)), (2, .pointer (some ⟨b1, 0, none⟩)), (1, .int .i64 k)] w11 (by kernel_rfl) ?_
   rcases Bool.eq_false_or_eq_true (((f.gSignals_l.getD (i).toNat sig0).gName).toList == ((f.gSignals_l.getD (k).toNat sig0).gName).toList) with fk7 | fk7
   ·skip
    refine J.head (.bool true) (congrArg Value.bool fk7) ?_
    refine J.run 5 K73_16 [(4, .int .i64 8)] w11 (by kernel_rfl) ?_
    refine J.ret Tryd.f73 [.int .i64 8] Tryd.func73 ⟨by kernel_rfl, trivial⟩ ?_
    refine hR _ _ ?_
    exact ⟨congrArg (Value.int .i64) (sig_e8 fk1 (none_bits fun j hj => hin j (by omega)) (.inl (take_any_yes (j := i.toNat) sig0 (by omega) (by omega) fk7))).symm, S11.nil⟩
   refine J.head (.bool false) (congrArg Value.bool fk7) ?_
   refine J.run 5 K73_17 [(60, .pointer (some ⟨b1, 4, none⟩)), (8, .int .i64 i), (6, .slice ra1 ((sbits (f.gSignals_l.getD (k).toNat sig0)).length) rc1), (5, .pointer (some ⟨b2, 0, none⟩)), (2, .pointer (some ⟨b1, 0, none⟩)), (1, .int .i64 k)] w11 (by kernel_rfl) ?_
   refine J.ok (OK.ldBox S11 2 61 32 4 (.slice f.gSignals_a f.gSignals_n f.gSignals_c) (by kernel_rfl) rfl (by kernel_rfl)) ?_
   refine J.run 1 K73_18 [(62, .int .i64 i), (61, .slice f.gSignals_a f.gSignals_n f.gSignals_c), (8, .int .i64 i), (6, .slice ra1 ((sbits (f.gSignals_l.getD (k).toNat sig0)).length) rc1), (5, .pointer (some ⟨b2, 0, none⟩)), (2, .pointer (some ⟨b1, 0, none⟩)), (1, .int .i64 k)] w11 (by kernel_rfl) ?_
   refine J.ok (OK.index 63 32 10 f.gSignals_a p5 f.gSignals_n (i).toNat i (p5.add ((i).toNat * 10)) (by kernel_rfl) (by kernel_rfl) hp5 (by omega) (by omega) rfl) ?_
   refine J.ok (OK.ldCells 64 57 (p5.add ((i).toNat * 10)) [.string ((f.gSignals_l.getD (i).toNat sig0).gName), .int .i64 ((f.gSignals_l.getD (i).toNat sig0).gStart), .int .i64 ((f.gSignals_l.getD (i).toNat sig0).gLength), .bool ((f.gSignals_l.getD (i).toNat sig0).gMotorola), .bool ((f.gSignals_l.getD (i).toNat sig0).gSigned), .int .i64 ((f.gSignals_l.getD (i).toNat sig0).gNum), .int .i64 ((f.gSignals_l.getD (i).toNat sig0).gOff), .int .i64 ((f.gSignals_l.getD (i).toNat sig0).gDen), .int .i64 ((f.gSignals_l.getD (i).toNat sig0).gLow), .int .i64 ((f.gSignals_l.getD (i).toNat sig0).gHigh)] (by kernel_rfl) (by kernel_rfl) (by kernel_rfl) (fun j_ v_ hj_ => S11.cell (hc2 j_ v_ hj_))) ?_
   refine J.callF 65 89 #[.agg #[.string ((f.gSignals_l.getD (i).toNat sig0).gName), .int .i64 ((f.gSignals_l.getD (i).toNat sig0).gStart), .int .i64 ((f.gSignals_l.getD (i).toNat sig0).gLength), .bool ((f.gSignals_l.getD (i).toNat sig0).gMotorola), .bool ((f.gSignals_l.getD (i).toNat sig0).gSigned), .int .i64 ((f.gSignals_l.getD (i).toNat sig0).gNum), .int .i64 ((f.gSignals_l.getD (i).toNat sig0).gOff), .int .i64 ((f.gSignals_l.getD (i).toNat sig0).gDen), .int .i64 ((f.gSignals_l.getD (i).toNat sig0).gLow), .int .i64 ((f.gSignals_l.getD (i).toNat sig0).gHigh)]] hb89 (by kernel_rfl) (rbits_rec (f.gSignals_l.getD (i).toNat sig0) _ (sigQ_sep hel2 S11)) ?_
   rintro _ w12 ⟨ra2, rc2, rfl, T3⟩
   have S12 : Sep w [rowOf encI ra2 rc2 3 1 (sbits (f.gSignals_l.getD (i).toNat sig0)), rowOf encI ra1 rc1 3 1 (sbits (f.gSignals_l.getD (k).toNat sig0)), box b2 [.string ((f.gSignals_l.getD (k).toNat sig0).gName), .int .i64 ((f.gSignals_l.getD (k).toNat sig0).gStart), .int .i64 ((f.gSignals_l.getD (k).toNat sig0).gLength), .bool ((f.gSignals_l.getD (k).toNat sig0).gMotorola), .bool ((f.gSignals_l.getD (k).toNat sig0).gSigned), .int .i64 ((f.gSignals_l.getD (k).toNat sig0).gNum), .int .i64 ((f.gSignals_l.getD (k).toNat sig0).gOff), .int .i64 ((f.gSignals_l.getD (k).toNat sig0).gDen), .int .i64 ((f.gSignals_l.getD (k).toNat sig0).gLow), .int .i64 ((f.gSignals_l.getD (k).toNat sig0).gHigh)] 57, box b1 [.string f.gName, .int .i64 f.gID, .int .i64 f.gLength, .bool f.gGuarded, .slice f.gSignals_a f.gSignals_n f.gSignals_c] 34] w12 := S11.trans T3
   clear T3 S11
   have := sbits_len (f.gSignals_l.getD (i).toNat sig0)
   refine J.run 8 K73_19 [(10, .int .i64 0), (9, .slice ra2 ((sbits (f.gSignals_l.getD (i).toNat sig0)).length) rc2), (8, .int .i64 i), (6, .slice ra1 ((sbits (f.gSignals_l.getD (k).toNat sig0)).length) rc1), (5, .pointer (some ⟨b2, 0, none⟩)), (2, .pointer (some ⟨b1, 0, none⟩)), (1, .int .i64 k)] w12 (by kernel_rfl) ?_
   have L73_3 : ∀ (mm_ : Nat) (j : Int) (w13 : World), (0 ≤ j) → (j ≤ ((sbits (f.gSignals_l.getD (i).toNat sig0)).length : Int)) → (∀ n, n < (j).toNat → (sbits (f.gSignals_l.getD (k).toNat sig0)).contains ((sbits (f.gSignals_l.getD (i).toNat sig0)).getD n 0) = false) → Sep w [rowOf encI ra2 rc2 3 1 (sbits (f.gSignals_l.getD (i).toNat sig0)), rowOf encI ra1 rc1 3 1 (sbits (f.gSignals_l.getD (k).toNat sig0)), box b2 [.string ((f.gSignals_l.getD (k).toNat sig0).gName), .int .i64 ((f.gSignals_l.getD (k).toNat sig0).gStart), .int .i64 ((f.gSignals_l.getD (k).toNat sig0).gLength), .bool ((f.gSignals_l.getD (k).toNat sig0).gMotorola), .bool ((f.gSignals_l.getD (k).toNat sig0).gSigned), .int .i64 ((f.gSignals_l.getD (k).toNat sig0).gNum), .int .i64 ((f.gSignals_l.getD (k).toNat sig0).gOff), .int .i64 ((f.gSignals_l.getD (k).toNat sig0).gDen), .int .i64 ((f.gSignals_l.getD (k).toNat sig0).gLow), .int .i64 ((f.gSignals_l.getD (k).toNat sig0).gHigh)] 57, box b1 [.string f.gName, .int .i64 f.gID, .int .i64 f.gLength, .bool f.gGuarded, .slice f.gSignals_a f.gSignals_n f.gSignals_c] 34] w13 → (((sbits (f.gSignals_l.getD (i).toNat sig0)).length : Int) - j).toNat = mm_ → J Tryd.prog 73 78 R K73_19 [(10, .int .i64 j), (9, .slice ra2 ((sbits (f.gSignals_l.getD (i).toNat sig0)).length) rc2), (8, .int .i64 i), (6, .slice ra1 ((sbits (f.gSignals_l.getD (k).toNat sig0)).length) rc1), (5, .pointer (some ⟨b2, 0, none⟩)), (2, .pointer (some ⟨b1, 0, none⟩)), (1, .int .i64 k)] w13 := by
    intro mm3
    induction mm3 using Nat.strongRecOn with
    | _ mm3 ih3 =>
    intro j w13 j0 j1 hq2 S13 hm3
    refine J.run 8 K73_20 [(69, .bool (decide (j < ((sbits (f.gSignals_l.getD (i).toNat sig0)).length : Int)))), (10, .int .i64 j), (9, .slice ra2 ((sbits (f.gSignals_l.getD (i).toNat sig0)).length) rc2), (8, .int .i64 i), (6, .slice ra1 ((sbits (f.gSignals_l.getD (k).toNat sig0)).length) rc1), (5, .pointer (some ⟨b2, 0, none⟩)), (2, .pointer (some ⟨b1, 0, none⟩)), (1, .int .i64 k)] w13 (by kernel_rfl) ?_
    by_cases fk8 : j < ((sbits (f.gSignals_l.getD (i).toNat sig0)).length : Int)
    rotate_left
    ·skip
     refine J.head (.bool false) (congrArg Value.bool (decide_eq_false fk8)) ?_
     refine J.run 6 K73_25 [(50, .int .i64 (IntKind.wrap .i64 (i + 1))), (6, .slice ra1 ((sbits (f.gSignals_l.getD (k).toNat sig0)).length) rc1), (5, .pointer (some ⟨b2, 0, none⟩)), (2, .pointer (some ⟨b1, 0, none⟩)), (1, .int .i64 k)] w13 (by kernel_rfl) ?_
     refine J.head (.int .i64 (i + 1)) (congrArg (Value.int .i64) (IntWalk.i64_in _ (by omega))) ?_
     refine J.run 3 K73_13 [(8, .int .i64 (i + 1)), (6, .slice ra1 ((sbits (f.gSignals_l.getD (k).toNat sig0)).length) rc1), (5, .pointer (some ⟨b2, 0, none⟩)), (2, .pointer (some ⟨b1, 0, none⟩)), (1, .int .i64 k)] w13 (by kernel_rfl) ?_
     have S15 : Sep w [rowOf encI ra1 rc1 3 1 (sbits (f.gSignals_l.getD (k).toNat sig0)), box b2 [.string ((f.gSignals_l.getD (k).toNat sig0).gName), .int .i64 ((f.gSignals_l.getD (k).toNat sig0).gStart), .int .i64 ((f.gSignals_l.getD (k).toNat sig0).gLength), .bool ((f.gSignals_l.getD (k).toNat sig0).gMotorola), .bool ((f.gSignals_l.getD (k).toNat sig0).gSigned), .int .i64 ((f.gSignals_l.getD (k).toNat sig0).gNum), .int .i64 ((f.gSignals_l.getD (k).toNat sig0).gOff), .int .i64 ((f.gSignals_l.getD (k).toNat sig0).gDen), .int .i64 ((f.gSignals_l.getD (k).toNat sig0).gLow), .int .i64 ((f.gSignals_l.getD (k).toNat sig0).gHigh)] 57, box b1 [.string f.gName, .int .i64 f.gID, .int .i64 f.gLength, .bool f.gGuarded, .slice f.gSignals_a f.gSignals_n f.gSignals_c] 34] w13 := S13.erase 0
     clear S13
     refine J.run 0 K73_13 [(8, .int .i64 (i + 1)), (6, .slice ra1 ((sbits (f.gSignals_l.getD (k).toNat sig0)).length) rc1), (5, .pointer (some ⟨b2, 0, none⟩)), (2, .pointer (some ⟨b1, 0, none⟩)), (1, .int .i64 k)] w13 (by kernel_rfl) ?_
     exact ih2 _ (show (k - (i + 1)).toNat < mm2 from by omega) (i + 1) w13 (by omega) (by omega) (all_step (q := fun j => eqT (f.gSignals_l.getD j sig0).gName (f.gSignals_l.getD (k).toNat sig0).gName = false ∧ lapB (f.gSignals_l.getD (k).toNat sig0) (f.gSignals_l.getD j sig0) = false) h0 hq ⟨fk7, none_bits fun j hj => hq2 j (by omega)⟩) S15 rfl
    refine J.head (.bool true) (congrArg Value.bool (decide_eq_true fk8)) ?_
    refine J.run 9 K73_21 [(74, .int .i64 j), (73, .slice ra2 ((sbits (f.gSignals_l.getD (i).toNat sig0)).length) rc2), (72, .slice ra1 ((sbits (f.gSignals_l.getD (k).toNat sig0)).length) rc1), (10, .int .i64 j), (9, .slice ra2 ((sbits (f.gSignals_l.getD (i).toNat sig0)).length) rc2), (8, .int .i64 i), (6, .slice ra1 ((sbits (f.gSignals_l.getD (k).toNat sig0)).length) rc1), (5, .pointer (some ⟨b2, 0, none⟩)), (2, .pointer (some ⟨b1, 0, none⟩)), (1, .int .i64 k)] w13 (by kernel_rfl) ?_
    obtain ⟨p6, hp6⟩ := row1_addr (S13.nth 0 rfl) (show 0 < (sbits (f.gSignals_l.getD (i).toNat sig0)).length by first | omega | (simp; omega))
    refine J.ok (OK.index 75 59 1 ra2 p6 ((sbits (f.gSignals_l.getD (i).toNat sig0)).length) (j).toNat j (p6.add (j).toNat) (by kernel_rfl) (by kernel_rfl) hp6 (by omega) (by first | omega | (simp; omega)) (by rw [Nat.mul_one])) ?_
    refine J.ok (OK.ldCell 76 3 (p6.add (j).toNat) (.int .i64 ((sbits (f.gSignals_l.getD (i).toNat sig0)).getD (j).toNat 0)) (by kernel_rfl) (by kernel_rfl) (row1_cell (g := (Value.int .i64)) S13 0 rfl hp6 0 (j).toNat (by first | omega | (simp; omega)))) ?_
    have := rowOf_len (S13.nth 1 rfl)
    refine J.callF 77 90 #[.slice ra1 ((sbits (f.gSignals_l.getD (k).toNat sig0)).length) rc1, .int .i64 ((sbits (f.gSignals_l.getD (i).toNat sig0)).getD (j).toNat 0)] hb90 (by kernel_rfl) (has_any ra1 ((sbits (f.gSignals_l.getD (k).toNat sig0)).length) rc1 (sbits (f.gSignals_l.getD (k).toNat sig0)) ((sbits (f.gSignals_l.getD (i).toNat sig0)).getD (j).toNat 0) _ ((row1_ones (S13.nth 1 rfl) ((sbits (f.gSignals_l.getD (k).toNat sig0)).length) (by first | rfl | omega | simp))) (by first | omega | (simp; omega))) ?_
    rintro _ w14 ⟨rfl, T4⟩
    have S14 : Sep w [rowOf encI ra2 rc2 3 1 (sbits (f.gSignals_l.getD (i).toNat sig0)), rowOf encI ra1 rc1 3 1 (sbits (f.gSignals_l.getD (k).toNat sig0)), box b2 [.string ((f.gSignals_l.getD (k).toNat sig0).gName), .int .i64 ((f.gSignals_l.getD (k).toNat sig0).gStart), .int .i64 ((f.gSignals_l.getD (k).toNat sig0).gLength), .bool ((f.gSignals_l.getD (k).toNat sig0).gMotorola), .bool ((f.gSignals_l.getD (k).toNat sig0).gSigned), .int .i64 ((f.gSignals_l.getD (k).toNat sig0).gNum), .int .i64 ((f.gSignals_l.getD (k).toNat sig0).gOff), .int .i64 ((f.gSignals_l.getD (k).toNat sig0).gDen), .int .i64 ((f.gSignals_l.getD (k).toNat sig0).gLow), .int .i64 ((f.gSignals_l.getD (k).toNat sig0).gHigh)] 57, box b1 [.string f.gName, .int .i64 f.gID, .int .i64 f.gLength, .bool f.gGuarded, .slice f.gSignals_a f.gSignals_n f.gSignals_c] 34] w14 := S13.trans T4
    clear T4 S13
    refine J.run 1 K73_22 [(77, .bool ((sbits (f.gSignals_l.getD (k).toNat sig0)).contains ((sbits (f.gSignals_l.getD (i).toNat sig0)).getD (j).toNat 0))), (10, .int .i64 j), (9, .slice ra2 ((sbits (f.gSignals_l.getD (i).toNat sig0)).length) rc2), (8, .int .i64 i), (6, .slice ra1 ((sbits (f.gSignals_l.getD (k).toNat sig0)).length) rc1), (5, .pointer (some ⟨b2, 0, none⟩)), (2, .pointer (some ⟨b1, 0, none⟩)), (1, .int .i64 k)] w14 (by kernel_rfl) ?_
    rcases Bool.eq_false_or_eq_true ((sbits (f.gSignals_l.getD (k).toNat sig0)).contains ((sbits (f.gSignals_l.getD (i).toNat sig0)).getD (j).toNat 0)) with fk9 | fk9
    ·skip
     refine J.head (.bool true) (congrArg Value.bool fk9) ?_
     refine J.run 5 K73_23 [(4, .int .i64 8)] w14 (by kernel_rfl) ?_
     refine J.ret Tryd.f73 [.int .i64 8] Tryd.func73 ⟨by kernel_rfl, trivial⟩ ?_
     refine hR _ _ ?_
     exact ⟨congrArg (Value.int .i64) (sig_e8 fk1 (none_bits fun j hj => hin j (by omega)) (.inr (take_any_yes (j := i.toNat) sig0 (by omega) (by omega) (any_bits (j := j.toNat) (by omega) fk9)))).symm, S14.nil⟩
    refine J.head (.bool false) (congrArg Value.bool fk9) ?_
    refine J.run 6 K73_24 [(71, .int .i64 (IntKind.wrap .i64 (j + 1))), (9, .slice ra2 ((sbits (f.gSignals_l.getD (i).toNat sig0)).length) rc2), (8, .int .i64 i), (6, .slice ra1 ((sbits (f.gSignals_l.getD (k).toNat sig0)).length) rc1), (5, .pointer (some ⟨b2, 0, none⟩)), (2, .pointer (some ⟨b1, 0, none⟩)), (1, .int .i64 k)] w14 (by kernel_rfl) ?_
    refine J.head (.int .i64 (j + 1)) (congrArg (Value.int .i64) (IntWalk.i64_in _ (by omega))) ?_
    refine J.run 3 K73_19 [(10, .int .i64 (j + 1)), (9, .slice ra2 ((sbits (f.gSignals_l.getD (i).toNat sig0)).length) rc2), (8, .int .i64 i), (6, .slice ra1 ((sbits (f.gSignals_l.getD (k).toNat sig0)).length) rc1), (5, .pointer (some ⟨b2, 0, none⟩)), (2, .pointer (some ⟨b1, 0, none⟩)), (1, .int .i64 k)] w14 (by kernel_rfl) ?_
    refine J.run 0 K73_19 [(10, .int .i64 (j + 1)), (9, .slice ra2 ((sbits (f.gSignals_l.getD (i).toNat sig0)).length) rc2), (8, .int .i64 i), (6, .slice ra1 ((sbits (f.gSignals_l.getD (k).toNat sig0)).length) rc1), (5, .pointer (some ⟨b2, 0, none⟩)), (2, .pointer (some ⟨b1, 0, none⟩)), (1, .int .i64 k)] w14 (by kernel_rfl) ?_
    exact ih3 _ (show (((sbits (f.gSignals_l.getD (i).toNat sig0)).length : Int) - (j + 1)).toNat < mm3 from by omega) (j + 1) w14 (by omega) (by omega) (all_step j0 hq2 fk9) S14 rfl
   exact L73_3 _ 0 w12 (by omega) (by omega) (by intro n hn; simp at hn) S12 rfl
  exact L73_2 _ 0 w6 (by omega) (by omega) (by intro j hj; simp at hj) S6 rfl
 exact L73_1 _ 0 w5 (by omega) (by omega) (by intro j hj; simp at hj) S5 rfl

end
end Go.Proofs.YthiklimfffhbaaaDoor

