/- Walks of functions of this seat, printed by a program over the engine. Conditions: as each theorem says. -/
import Derived.Test.YthiklimfffhbaaaDoorZlS4
namespace Go.Proofs.YthiklimfffhbaaaDoor
noncomputable section
open Go.Eng Go.RowKit
set_option linter.unusedSimpArgs false
set_option linter.unusedVariables false
def hdBad (f : Frm) : Bool := !inB f.gID 0 2047 || !inB f.gLength 1 8 || (f.gGuarded && decide (f.gLength < 2))
def twinB (f x : Frm) : Bool := eqT x.gName f.gName || x.gID == f.gID
def headErr (d : Db) (k : Nat) : Int :=
  if nameB (d.gFrames_l.getD k frm0).gName = false then 1 else if hdBad (d.gFrames_l.getD k frm0) then 2 else if 16 < (d.gFrames_l.getD k frm0).gSignals_n then 5 else
  if (d.gFrames_l.take k).any (twinB (d.gFrames_l.getD k frm0)) then 8 else 0
def frmR (d : Db) (k : Nat) : ByteArray × Int := if headErr d k ≠ 0 then ((d.gFrames_l.getD k frm0).gName, headErr d k) else sigsF (d.gFrames_l.getD k frm0)
def faultF (d : Db) : ByteArray × Int := if 64 < d.gFrames_n then (ByteArray.empty, 5) else pickF d.gFrames_l.length (frmR d)
theorem hd1 {d : Db} {k : Nat} (h : nameB (d.gFrames_l.getD k frm0).gName = false) : headErr d k = 1 := by unfold headErr; rw [if_pos h]
theorem hd2 {d : Db} {k : Nat} (h : nameB (d.gFrames_l.getD k frm0).gName = true) (h2 : hdBad (d.gFrames_l.getD k frm0) = true) : headErr d k = 2 := by unfold headErr; rw [if_neg (by rw [h]; decide), if_pos h2]
theorem hd5 {d : Db} {k : Nat} (h : nameB (d.gFrames_l.getD k frm0).gName = true) (h2 : hdBad (d.gFrames_l.getD k frm0) = false) (h3 : 16 < (d.gFrames_l.getD k frm0).gSignals_n) : headErr d k = 5 := by
  unfold headErr; rw [if_neg (by rw [h]; decide), if_neg (by rw [h2]; decide), if_pos h3]
theorem hd8 {d : Db} {k : Nat} (h : nameB (d.gFrames_l.getD k frm0).gName = true) (h2 : hdBad (d.gFrames_l.getD k frm0) = false) (h3 : ¬ 16 < (d.gFrames_l.getD k frm0).gSignals_n) (h4 : (d.gFrames_l.take k).any (twinB (d.gFrames_l.getD k frm0)) = true) : headErr d k = 8 := by
  unfold headErr; rw [if_neg (by rw [h]; decide), if_neg (by rw [h2]; decide), if_neg h3, if_pos h4]
theorem hd0 {d : Db} {k : Nat} (h : nameB (d.gFrames_l.getD k frm0).gName = true) (h2 : hdBad (d.gFrames_l.getD k frm0) = false) (h3 : ¬ 16 < (d.gFrames_l.getD k frm0).gSignals_n) (h4 : (d.gFrames_l.take k).any (twinB (d.gFrames_l.getD k frm0)) = false) : headErr d k = 0 := by
  unfold headErr; rw [if_neg (by rw [h]; decide), if_neg (by rw [h2]; decide), if_neg h3, if_neg (by rw [h4]; decide)]
theorem bad_yes {f : Frm} (h : ¬ (0 ≤ f.gID ∧ f.gID ≤ 2047) ∨ ¬ (1 ≤ f.gLength ∧ f.gLength ≤ 8) ∨ f.gGuarded = true ∧ f.gLength < 2) : hdBad f = true := by
  unfold hdBad
  rcases h with h | h | ⟨h, h2⟩
  · rw [show inB f.gID 0 2047 = false by (cases hx : inB f.gID 0 2047 with | false => rfl | true => exact absurd (inB_iff.1 hx) h)]; simp
  · rw [show inB f.gLength 1 8 = false by (cases hx : inB f.gLength 1 8 with | false => rfl | true => exact absurd (inB_iff.1 hx) h)]; simp
  · rw [h, decide_eq_true h2]; simp
theorem bad_no {f : Frm} (h : 0 ≤ f.gID ∧ f.gID ≤ 2047) (h2 : 1 ≤ f.gLength ∧ f.gLength ≤ 8) (h3 : f.gGuarded = false ∨ ¬ f.gLength < 2) : hdBad f = false := by
  unfold hdBad
  rw [inB_iff.2 h, inB_iff.2 h2]
  rcases h3 with h3 | h3
  · rw [h3]; rfl
  · rw [decide_eq_false h3]; simp
theorem frm_head {d : Db} {k : Nat} {e : Int} (h : headErr d k = e) (h0 : e ≠ 0) : frmR d k = ((d.gFrames_l.getD k frm0).gName, e) := by unfold frmR; rw [if_pos (by rw [h]; exact h0), h]
theorem frm_sig {d : Db} {k : Nat} (h : headErr d k = 0) : frmR d k = sigsF (d.gFrames_l.getD k frm0) := by unfold frmR; rw [if_neg (by rw [h]; decide)]
theorem fault_at {d : Db} {k : Nat} {r : ByteArray × Int} (hn : ¬ 64 < d.gFrames_n) (hi : k < d.gFrames_l.length) (hq : ∀ j, j < k → (frmR d j).2 = 0) (h : frmR d k = r) (h0 : r.2 ≠ 0) : faultF d = r := by
  unfold faultF; rw [if_neg hn, pick_at hi hq (by rw [h]; exact h0), h]
theorem fault_none {d : Db} (hn : ¬ 64 < d.gFrames_n) (hq : ∀ j, j < d.gFrames_l.length → (frmR d j).2 = 0) : faultF d = (ByteArray.empty, 0) := by unfold faultF; rw [if_neg hn, pick_none hq]
theorem fault_full {d : Db} (hn : 64 < d.gFrames_n) : faultF d = (ByteArray.empty, 5) := by unfold faultF; rw [if_pos hn]
theorem frm_step {d : Db} {i : Int} (h0 : 0 ≤ i) (hq : ∀ k, k < i.toNat → (frmR d k).2 = 0) (h : (frmR d i.toNat).2 = 0) : ∀ k, k < (i + 1).toNat → (frmR d k).2 = 0 := by
  intro k hk
  by_cases e : k = i.toNat
  · subst e; exact h
  · exact hq k (by omega)
theorem hb65 : HasBody Tryd.prog 65 := fun _ _ => by kernel_rfl
def K65_0 := adv 2 [] (bodyOf Tryd.f65)
def K65_1 := adv 5 [] (popK K65_0)
def K65_2 := adv 1 [] (popK K65_1)
def K65_3 := adv 2 [] (popK K65_2)
def K65_4 := adv 8 [] K65_3
def K65_5 := adv 1 [] K65_3
def K65_6 := adv 1 [] (popK K65_5)
def K65_7 := adv 4 [] (popK K65_6)
set_option maxRecDepth 20000 in
set_option maxHeartbeats 20000000 in
theorem twin_any (f x : Frm) (bx : Nat) (w : World) (hb1 : (box bx [.string f.gName, .int .i64 f.gID, .int .i64 f.gLength, .bool f.gGuarded, .slice f.gSignals_a f.gSignals_n f.gSignals_c] 34).holds w) : Ret Tryd.prog 65 #[.agg #[.string x.gName, .int .i64 x.gID, .int .i64 x.gLength, .bool x.gGuarded, .slice x.gSignals_a x.gSignals_n x.gSignals_c], .pointer (some ⟨bx, 0, none⟩)] w (fun v w' => v = .bool (twinB f x) ∧ Sep w [] w') := by
 have S0 := Sep.refl w
 refine Ret.named fun R hR => ?_
 refine Ret.of_J (N := 16) [(0, .agg #[.string x.gName, .int .i64 x.gID, .int .i64 x.gLength, .bool x.gGuarded, .slice x.gSignals_a x.gSignals_n x.gSignals_c]), (1, .pointer (some ⟨bx, 0, none⟩))] Tryd.func65 rfl rfl (Nat.le_of_ble_eq_true (by kernel_rfl)) (by kernel_rfl) ?_
 refine J.run 2 K65_0 [(0, .agg #[.string x.gName, .int .i64 x.gID, .int .i64 x.gLength, .bool x.gGuarded, .slice x.gSignals_a x.gSignals_n x.gSignals_c]), (1, .pointer (some ⟨bx, 0, none⟩))] w (by kernel_rfl) ?_
 refine J.new S0 2 [.string x.gName, .int .i64 x.gID, .int .i64 x.gLength, .bool x.gGuarded, .slice x.gSignals_a x.gSignals_n x.gSignals_c] 34 (by kernel_rfl) ?_
 intro b1 w1 S1
 refine J.run 5 K65_1 [(4, .pointer (some ⟨b1, 0, none⟩)), (2, .pointer (some ⟨b1, 0, none⟩)), (1, .pointer (some ⟨bx, 0, none⟩))] w1 (by kernel_rfl) ?_
 refine J.ok (OK.ldBox S1 0 5 9 0 (.string x.gName) (by kernel_rfl) rfl (by kernel_rfl)) ?_
 refine J.run 1 K65_2 [(6, .pointer (some ⟨bx, 0, none⟩)), (5, .string x.gName), (2, .pointer (some ⟨b1, 0, none⟩)), (1, .pointer (some ⟨bx, 0, none⟩))] w1 (by kernel_rfl) ?_
 refine J.ok (OK.ldRo S1 hb1 7 9 0 (.string f.gName) (by kernel_rfl) (by kernel_rfl)) ?_
 refine J.run 2 K65_3 [(9, .bool (x.gName.toList == f.gName.toList)), (2, .pointer (some ⟨b1, 0, none⟩)), (1, .pointer (some ⟨bx, 0, none⟩))] w1 (by kernel_rfl) ?_
 rcases Bool.eq_false_or_eq_true (x.gName.toList == f.gName.toList) with fk1 | fk1
 ·skip
  refine J.head (.bool true) (congrArg Value.bool fk1) ?_
  refine J.run 8 K65_4 [(3, .bool true)] w1 (by kernel_rfl) ?_
  refine J.ret Tryd.f65 [.bool true] Tryd.func65 ⟨by kernel_rfl, trivial⟩ ?_
  refine hR _ _ ?_
  exact ⟨congrArg Value.bool (by simp only [twinB, eqT, fk1]; try simp), S1.nil⟩
 refine J.head (.bool false) (congrArg Value.bool fk1) ?_
 refine J.run 1 K65_5 [(10, .pointer (some ⟨b1, 1, none⟩)), (9, .bool false), (1, .pointer (some ⟨bx, 0, none⟩))] w1 (by kernel_rfl) ?_
 refine J.ok (OK.ldBox S1 0 11 3 1 (.int .i64 x.gID) (by kernel_rfl) rfl (by kernel_rfl)) ?_
 refine J.run 1 K65_6 [(12, .pointer (some ⟨bx, 1, none⟩)), (11, .int .i64 x.gID), (9, .bool false)] w1 (by kernel_rfl) ?_
 refine J.ok (OK.ldRo S1 hb1 13 3 1 (.int .i64 f.gID) (by kernel_rfl) (by kernel_rfl)) ?_
 refine J.run 4 K65_7 [(3, .bool (x.gID == f.gID))] w1 (by kernel_rfl) ?_
 refine J.ret Tryd.f65 [.bool (x.gID == f.gID)] Tryd.func65 ⟨by kernel_rfl, trivial⟩ ?_
 refine hR _ _ ?_
 exact ⟨congrArg Value.bool (by simp only [twinB, eqT, fk1]; try simp), S1.nil⟩

theorem hb54 : HasBody Tryd.prog 54 := fun _ _ => by kernel_rfl
def K54_0 := adv 13 [] (bodyOf Tryd.f54)
def K54_1 := adv 5 [] K54_0
def K54_2 := adv 14 [true] K54_1
def K54_3 := adv 1 [] (popK (popK (popK K54_2)))
def K54_4 := adv 6 [true] K54_3
def K54_5 := adv 5 [false] K54_3
def K54_6 := adv 6 [false] K54_1
set_option maxRecDepth 20000 in
set_option maxHeartbeats 20000000 in
theorem indexFr1 (la : Option Addr) (len cap : Nat) (l : List Frm) (g : FuncId) (c1 : Value) (q : Frm → Bool) (w : World) (hI : Recs frmE 5 w la len l) (hlen : len ≤ 9223372036854775807) (hbg : HasBody Tryd.prog g) (hcall : ∀ (i : Nat) (w2 : World), i < l.length → Sep w [] w2 → Ret Tryd.prog g #[.agg #[.string ((l.getD i frm0).gName), .int .i64 ((l.getD i frm0).gID), .int .i64 ((l.getD i frm0).gLength), .bool ((l.getD i frm0).gGuarded), .slice ((l.getD i frm0).gSignals_a) ((l.getD i frm0).gSignals_n) ((l.getD i frm0).gSignals_c)], c1] w2 (fun v w3 => v = .bool (q (l.getD i frm0)) ∧ Sep w2 [] w3)) : Ret Tryd.prog 54 #[.slice la len cap, .func (.func g) #[] #[c1]] w (fun v w' => v = .int .i64 (indexF q l) ∧ Sep w [] w') := by
 have S0 := Sep.refl w
 refine Ret.named fun R hR => ?_
 refine Ret.of_J (N := 19) [(0, .slice la len cap), (1, .func (.func g) #[] #[c1])] Tryd.func54 rfl rfl (Nat.le_of_ble_eq_true (by kernel_rfl)) (by kernel_rfl) ?_
 refine J.run 13 K54_0 [(8, .int .i64 0), (7, .int .i64 (len : Int)), (0, .slice la len cap), (1, .func (.func g) #[] #[c1])] w (by kernel_rfl) ?_
 have L54_1 : ∀ (mm_ : Nat) (i : Int) (w1 : World), (0 ≤ i) → (i ≤ (len : Int)) → (∀ j, j < (i).toNat → q (l.getD j frm0) = false) → Sep w [] w1 → ((len : Int) - i).toNat = mm_ → J Tryd.prog 54 19 R K54_0 [(8, .int .i64 i), (7, .int .i64 (len : Int)), (0, .slice la len cap), (1, .func (.func g) #[] #[c1])] w1 := by
  intro mm1
  induction mm1 using Nat.strongRecOn with
  | _ mm1 ih1 =>
  intro i w1 h0 h1 hq S1 hm1
  refine J.run 5 K54_1 [(9, .bool (decide (i < (len : Int)))), (8, .int .i64 i), (7, .int .i64 (len : Int)), (0, .slice la len cap), (1, .func (.func g) #[] #[c1])] w1 (by kernel_rfl) ?_
  by_cases fk1 : i < (len : Int)
  rotate_left
  ·skip
   refine J.head (.bool false) (congrArg Value.bool (decide_eq_false fk1)) ?_
   refine J.run 6 K54_6 [(4, .int .i64 (-1))] w1 (by kernel_rfl) ?_
   refine J.ret Tryd.f54 [.int .i64 (-1)] Tryd.func54 ⟨by kernel_rfl, trivial⟩ ?_
   refine hR _ _ ?_
   exact ⟨by rw [tup_one, indexF_none frm0 fun j hj => hq j (by have := hI.len_eq; omega)], S1.nil⟩
  refine J.head (.bool true) (congrArg Value.bool (decide_eq_true fk1)) ?_
  refine J.run 14 K54_2 [(13, .int .i64 i), (12, .slice la len cap), (11, .func (.func g) #[] #[c1]), (5, .int .i64 i), (8, .int .i64 i), (7, .int .i64 (len : Int)), (0, .slice la len cap), (1, .func (.func g) #[] #[c1])] w1 (by kernel_rfl) ?_
  obtain ⟨p1, hp1, hc1⟩ := hI.at frm0 (i).toNat (by omega)
  refine J.ok (OK.index 14 22 5 la p1 len (i).toNat i (p1.add ((i).toNat * 5)) (by kernel_rfl) (by kernel_rfl) hp1 (by omega) (by omega) rfl) ?_
  refine J.ok (OK.ldCells 15 34 (p1.add ((i).toNat * 5)) [.string ((l.getD (i).toNat frm0).gName), .int .i64 ((l.getD (i).toNat frm0).gID), .int .i64 ((l.getD (i).toNat frm0).gLength), .bool ((l.getD (i).toNat frm0).gGuarded), .slice ((l.getD (i).toNat frm0).gSignals_a) ((l.getD (i).toNat frm0).gSignals_n) ((l.getD (i).toNat frm0).gSignals_c)] (by kernel_rfl) (by kernel_rfl) (by kernel_rfl) (fun j_ v_ hj_ => S1.cell (hc1 j_ v_ hj_))) ?_
  refine J.callF 16 g #[.agg #[.string ((l.getD (i).toNat frm0).gName), .int .i64 ((l.getD (i).toNat frm0).gID), .int .i64 ((l.getD (i).toNat frm0).gLength), .bool ((l.getD (i).toNat frm0).gGuarded), .slice ((l.getD (i).toNat frm0).gSignals_a) ((l.getD (i).toNat frm0).gSignals_n) ((l.getD (i).toNat frm0).gSignals_c)], c1] hbg (by kernel_rfl) (hcall (i).toNat w1 (by have := hI.len_eq; omega) S1.nil) ?_
  rintro _ w2 ⟨rfl, T1⟩
  have S2 : Sep w [] w2 := S1.trans T1
  clear T1 S1
  refine J.run 1 K54_3 [(16, .bool (q (l.getD (i).toNat frm0))), (5, .int .i64 i), (8, .int .i64 i), (7, .int .i64 (len : Int)), (0, .slice la len cap), (1, .func (.func g) #[] #[c1])] w2 (by kernel_rfl) ?_
  rcases Bool.eq_false_or_eq_true (q (l.getD (i).toNat frm0)) with fk2 | fk2
  ·skip
   refine J.head (.bool true) (congrArg Value.bool fk2) ?_
   refine J.run 6 K54_4 [(4, .int .i64 i)] w2 (by kernel_rfl) ?_
   refine J.ret Tryd.f54 [.int .i64 i] Tryd.func54 ⟨by kernel_rfl, trivial⟩ ?_
   refine hR _ _ ?_
   exact ⟨by rw [tup_one, indexF_some frm0 i.toNat (by have := hI.len_eq; omega) hq fk2, Int.toNat_of_nonneg h0], S2.nil⟩
  refine J.head (.bool false) (congrArg Value.bool fk2) ?_
  refine J.run 5 K54_5 [(18, .int .i64 (IntKind.wrap .i64 (i + 1))), (7, .int .i64 (len : Int)), (0, .slice la len cap), (1, .func (.func g) #[] #[c1])] w2 (by kernel_rfl) ?_
  refine J.head (.int .i64 (i + 1)) (congrArg (Value.int .i64) (IntWalk.i64_in _ (by omega))) ?_
  refine J.run 3 K54_0 [(8, .int .i64 (i + 1)), (7, .int .i64 (len : Int)), (0, .slice la len cap), (1, .func (.func g) #[] #[c1])] w2 (by kernel_rfl) ?_
  refine J.run 0 K54_0 [(8, .int .i64 (i + 1)), (7, .int .i64 (len : Int)), (0, .slice la len cap), (1, .func (.func g) #[] #[c1])] w2 (by kernel_rfl) ?_
  exact ih1 _ (show ((len : Int) - (i + 1)).toNat < mm1 from by omega) (i + 1) w2 (by omega) (by omega) (by intro j hj; by_cases e : j = i.toNat; (subst e; exact fk2); exact hq j (by omega)) S2 rfl
 exact L54_1 _ 0 w (by omega) (by omega) (by intro j hj; simp at hj) S0 rfl

theorem hb25 : HasBody Tryd.prog 25 := fun _ _ => by kernel_rfl
def K25_0 := adv 8 [] (bodyOf Tryd.f25)
def K25_1 := adv 3 [] (popK K25_0)
set_option maxRecDepth 20000 in
set_option maxHeartbeats 20000000 in
theorem containsFr1 (la : Option Addr) (len cap : Nat) (l : List Frm) (g : FuncId) (c1 : Value) (q : Frm → Bool) (w : World) (hI : Recs frmE 5 w la len l) (hlen : len ≤ 9223372036854775807) (hbg : HasBody Tryd.prog g) (hcall : ∀ (i : Nat) (w2 : World), i < l.length → Sep w [] w2 → Ret Tryd.prog g #[.agg #[.string ((l.getD i frm0).gName), .int .i64 ((l.getD i frm0).gID), .int .i64 ((l.getD i frm0).gLength), .bool ((l.getD i frm0).gGuarded), .slice ((l.getD i frm0).gSignals_a) ((l.getD i frm0).gSignals_n) ((l.getD i frm0).gSignals_c)], c1] w2 (fun v w3 => v = .bool (q (l.getD i frm0)) ∧ Sep w2 [] w3)) : Ret Tryd.prog 25 #[.slice la len cap, .func (.func g) #[] #[c1]] w (fun v w' => v = .bool (l.any q) ∧ Sep w [] w') := by
 have S0 := Sep.refl w
 refine Ret.named fun R hR => ?_
 refine Ret.of_J (N := 9) [(0, .slice la len cap), (1, .func (.func g) #[] #[c1])] Tryd.func25 rfl rfl (Nat.le_of_ble_eq_true (by kernel_rfl)) (by kernel_rfl) ?_
 refine J.run 8 K25_0 [(6, .func (.func g) #[] #[c1]), (5, .slice la len cap)] w (by kernel_rfl) ?_
 refine J.callF 7 54 #[.slice la len cap, .func (.func g) #[] #[c1]] hb54 (by kernel_rfl) (indexFr1 la len cap l g c1 q _ (hI.sep S0) (by first | omega | (simp; omega)) hbg (hcall)) ?_
 rintro _ w1 ⟨rfl, T1⟩
 have S1 : Sep w [] w1 := S0.trans T1
 clear T1
 refine J.run 3 K25_1 [(4, .bool (decide ((indexF q l) ≥ 0)))] w1 (by kernel_rfl) ?_
 refine J.ret Tryd.f25 [.bool (decide ((indexF q l) ≥ 0))] Tryd.func25 ⟨by kernel_rfl, trivial⟩ ?_
 refine hR _ _ ?_
 exact ⟨congrArg Value.bool (by first | exact indexF_nonneg), S1.nil⟩

theorem hb43 : HasBody Tryd.prog 43 := fun _ _ => by kernel_rfl
def K43_0 := adv 2 [] (bodyOf Tryd.f43)
def K43_1 := adv 7 [] (popK K43_0)
def K43_2 := adv 3 [] (popK K43_1)
def K43_3 := adv 6 [true] K43_2
def K43_4 := adv 6 [false] K43_2
def K43_5 := adv 5 [] (popK K43_4)
def K43_6 := adv 5 [] K43_5
def K43_7 := adv 7 [true] K43_6
def K43_8 := adv 1 [] (popK (popK (popK K43_7)))
def K43_9 := adv 6 [] (popK K43_8)
def K43_10 := adv 3 [] (popK (popK K43_9))
def K43_11 := adv 4 [false] K43_10
def K43_12 := adv 2 [] (popK (popK K43_11))
def K43_13 := adv 1 [] K43_12
def K43_14 := adv 3 [] (popK (popK K43_13))
def K43_15 := adv 1 [] K43_14
def K43_16 := adv 1 [] (popK K43_15)
def K43_17 := adv 1 [] K43_16
def K43_18 := adv 5 [] (popK K43_17)
def K43_19 := adv 4 [true] K43_18
def K43_20 := adv 3 [] (popK K43_19)
def K43_21 := adv 4 [false] K43_18
def K43_22 := adv 4 [] (popK K43_21)
def K43_23 := adv 4 [true] K43_22
def K43_24 := adv 3 [] (popK K43_23)
def K43_25 := adv 4 [false] K43_22
def K43_26 := adv 1 [] (popK K43_25)
def K43_27 := adv 1 [] (popK K43_26)
def K43_28 := adv 2 [] (popK K43_27)
def K43_29 := adv 4 [true] K43_28
def K43_30 := adv 3 [] (popK K43_29)
def K43_31 := adv 5 [false] K43_28
def K43_32 := adv 11 [] (popK (popK K43_31))
def K43_33 := adv 5 [false] K43_32
def K43_34 := adv 8 [true] K43_32
def K43_35 := adv 11 [false] K43_16
def K43_36 := adv 4 [] (popK K43_35)
def K43_37 := adv 4 [true] K43_36
def K43_38 := adv 3 [] (popK K43_37)
def K43_39 := adv 4 [false] K43_36
def K43_40 := adv 1 [] (popK K43_39)
def K43_41 := adv 1 [] (popK K43_40)
def K43_42 := adv 2 [] (popK K43_41)
def K43_43 := adv 4 [true] K43_42
def K43_44 := adv 3 [] (popK K43_43)
def K43_45 := adv 5 [false] K43_42
def K43_46 := adv 11 [] (popK (popK K43_45))
def K43_47 := adv 5 [false] K43_46
def K43_48 := adv 8 [true] K43_46
def K43_49 := adv 14 [true] K43_14
def K43_50 := adv 3 [] (popK K43_49)
def K43_51 := adv 20 [true] K43_12
def K43_52 := adv 3 [] (popK K43_51)
def K43_53 := adv 4 [true] K43_10
def K43_54 := adv 3 [] (popK K43_53)
def K43_55 := adv 7 [false] K43_6
set_option maxRecDepth 20000 in
set_option maxHeartbeats 20000000 in
theorem fault_any (d : Db) (w : World) (hd : dbQ w d) : Ret Tryd.prog 43 #[.agg #[.slice d.gFrames_a d.gFrames_n d.gFrames_c]] w (fun v w' => v = .tuple #[.string (faultF d).1, .int .i64 (faultF d).2] ∧ Sep w [] w') := by
 have S0 := Sep.refl w
 refine Ret.named fun R hR => ?_
 refine Ret.of_J (N := 75) [(0, .agg #[.slice d.gFrames_a d.gFrames_n d.gFrames_c])] Tryd.func43 rfl rfl (Nat.le_of_ble_eq_true (by kernel_rfl)) (by kernel_rfl) ?_
 obtain ⟨q1, q2, q3, _⟩ := id hd
 have ql1 := q2.len_eq
 refine J.run 2 K43_0 [(0, .agg #[.slice d.gFrames_a d.gFrames_n d.gFrames_c])] w (by kernel_rfl) ?_
 refine J.new S0 1 [.slice d.gFrames_a d.gFrames_n d.gFrames_c] 24 (by kernel_rfl) ?_
 intro b1 w1 S1
 refine J.run 7 K43_1 [(8, .pointer (some ⟨b1, 0, none⟩)), (1, .pointer (some ⟨b1, 0, none⟩))] w1 (by kernel_rfl) ?_
 refine J.ok (OK.ldBox S1 0 9 22 0 (.slice d.gFrames_a d.gFrames_n d.gFrames_c) (by kernel_rfl) rfl (by kernel_rfl)) ?_
 refine J.run 3 K43_2 [(11, .bool (decide ((d.gFrames_n : Int) > 64))), (1, .pointer (some ⟨b1, 0, none⟩))] w1 (by kernel_rfl) ?_
 by_cases fk1 : (d.gFrames_n : Int) > 64
 ·skip
  refine J.head (.bool true) (congrArg Value.bool (decide_eq_true fk1)) ?_
  refine J.run 6 K43_3 [(3, .int .i64 5), (2, .string ByteArray.empty)] w1 (by kernel_rfl) ?_
  refine J.ret Tryd.f43 [.string ByteArray.empty, .int .i64 5] Tryd.func43 ⟨by kernel_rfl, by kernel_rfl, trivial⟩ ?_
  refine hR _ _ ?_
  have r0 := fault_full (d := d) (by omega)
  exact ⟨by rw [tup_two, r0], S1.nil⟩
 refine J.head (.bool false) (congrArg Value.bool (decide_eq_false fk1)) ?_
 refine J.run 6 K43_4 [(12, .pointer (some ⟨b1, 0, none⟩)), (1, .pointer (some ⟨b1, 0, none⟩))] w1 (by kernel_rfl) ?_
 refine J.ok (OK.ldBox S1 0 13 22 0 (.slice d.gFrames_a d.gFrames_n d.gFrames_c) (by kernel_rfl) rfl (by kernel_rfl)) ?_
 refine J.run 5 K43_5 [(15, .int .i64 0), (14, .int .i64 (d.gFrames_n : Int)), (13, .slice d.gFrames_a d.gFrames_n d.gFrames_c), (1, .pointer (some ⟨b1, 0, none⟩))] w1 (by kernel_rfl) ?_
 have L43_1 : ∀ (mm_ : Nat) (i : Int) (w2 : World), (0 ≤ i) → (i ≤ (d.gFrames_n : Int)) → (∀ j, j < (i).toNat → (frmR d j).2 = 0) → Sep w [box b1 [.slice d.gFrames_a d.gFrames_n d.gFrames_c] 24] w2 → ((d.gFrames_n : Int) - i).toNat = mm_ → J Tryd.prog 43 75 R K43_5 [(15, .int .i64 i), (14, .int .i64 (d.gFrames_n : Int)), (13, .slice d.gFrames_a d.gFrames_n d.gFrames_c), (1, .pointer (some ⟨b1, 0, none⟩))] w2 := by
  intro mm1
  induction mm1 using Nat.strongRecOn with
  | _ mm1 ih1 =>
  intro i w2 h0 h1 hq S2 hm1
  refine J.run 5 K43_6 [(16, .bool (decide (i < (d.gFrames_n : Int)))), (15, .int .i64 i), (14, .int .i64 (d.gFrames_n : Int)), (13, .slice d.gFrames_a d.gFrames_n d.gFrames_c), (1, .pointer (some ⟨b1, 0, none⟩))] w2 (by kernel_rfl) ?_
  by_cases fk2 : i < (d.gFrames_n : Int)
  rotate_left
  ·skip
   refine J.head (.bool false) (congrArg Value.bool (decide_eq_false fk2)) ?_
   refine J.run 7 K43_55 [(3, .int .i64 0), (2, .string ByteArray.empty)] w2 (by kernel_rfl) ?_
   refine J.ret Tryd.f43 [.string ByteArray.empty, .int .i64 0] Tryd.func43 ⟨by kernel_rfl, by kernel_rfl, trivial⟩ ?_
   refine hR _ _ ?_
   have r0 := fault_none (d := d) (by omega) fun j hj => hq j (by omega)
   exact ⟨by rw [tup_two, r0], S2.nil⟩
  refine J.head (.bool true) (congrArg Value.bool (decide_eq_true fk2)) ?_
  refine J.run 7 K43_7 [(17, .int .i64 i), (15, .int .i64 i), (14, .int .i64 (d.gFrames_n : Int)), (13, .slice d.gFrames_a d.gFrames_n d.gFrames_c), (1, .pointer (some ⟨b1, 0, none⟩))] w2 (by kernel_rfl) ?_
  obtain ⟨p1, hp1, hc1⟩ := q2.at frm0 (i).toNat (by omega)
  have hel1 := getD_Q q3 frm0 (n := (i).toNat) (by have := q2.len_eq; omega)
  obtain ⟨q4, q5, q6, q7, q8, q9, _⟩ := id hel1
  have ql2 := q8.len_eq
  refine J.ok (OK.index 18 22 5 d.gFrames_a p1 d.gFrames_n (i).toNat i (p1.add ((i).toNat * 5)) (by kernel_rfl) (by kernel_rfl) hp1 (by omega) (by omega) rfl) ?_
  refine J.ok (OK.ldCells 19 34 (p1.add ((i).toNat * 5)) [.string ((d.gFrames_l.getD (i).toNat frm0).gName), .int .i64 ((d.gFrames_l.getD (i).toNat frm0).gID), .int .i64 ((d.gFrames_l.getD (i).toNat frm0).gLength), .bool ((d.gFrames_l.getD (i).toNat frm0).gGuarded), .slice ((d.gFrames_l.getD (i).toNat frm0).gSignals_a) ((d.gFrames_l.getD (i).toNat frm0).gSignals_n) ((d.gFrames_l.getD (i).toNat frm0).gSignals_c)] (by kernel_rfl) (by kernel_rfl) (by kernel_rfl) (fun j_ v_ hj_ => S2.cell (hc1 j_ v_ hj_))) ?_
  refine J.new S2 5 [.string ByteArray.empty, .int .i64 0, .int .i64 0, .bool false, .slice none 0 0] 34 (by kernel_rfl) ?_
  intro b2 w3 S3
  refine J.run 1 K43_8 [(4, .int .i64 i), (5, .pointer (some ⟨b2, 0, none⟩)), (19, .agg #[.string ((d.gFrames_l.getD (i).toNat frm0).gName), .int .i64 ((d.gFrames_l.getD (i).toNat frm0).gID), .int .i64 ((d.gFrames_l.getD (i).toNat frm0).gLength), .bool ((d.gFrames_l.getD (i).toNat frm0).gGuarded), .slice ((d.gFrames_l.getD (i).toNat frm0).gSignals_a) ((d.gFrames_l.getD (i).toNat frm0).gSignals_n) ((d.gFrames_l.getD (i).toNat frm0).gSignals_c)]), (15, .int .i64 i), (14, .int .i64 (d.gFrames_n : Int)), (13, .slice d.gFrames_a d.gFrames_n d.gFrames_c), (1, .pointer (some ⟨b1, 0, none⟩))] w3 (by kernel_rfl) ?_
  refine J.stBox S3 0 34 0 (.agg #[.string ((d.gFrames_l.getD (i).toNat frm0).gName), .int .i64 ((d.gFrames_l.getD (i).toNat frm0).gID), .int .i64 ((d.gFrames_l.getD (i).toNat frm0).gLength), .bool ((d.gFrames_l.getD (i).toNat frm0).gGuarded), .slice ((d.gFrames_l.getD (i).toNat frm0).gSignals_a) ((d.gFrames_l.getD (i).toNat frm0).gSignals_n) ((d.gFrames_l.getD (i).toNat frm0).gSignals_c)]) [.string ((d.gFrames_l.getD (i).toNat frm0).gName), .int .i64 ((d.gFrames_l.getD (i).toNat frm0).gID), .int .i64 ((d.gFrames_l.getD (i).toNat frm0).gLength), .bool ((d.gFrames_l.getD (i).toNat frm0).gGuarded), .slice ((d.gFrames_l.getD (i).toNat frm0).gSignals_a) ((d.gFrames_l.getD (i).toNat frm0).gSignals_n) ((d.gFrames_l.getD (i).toNat frm0).gSignals_c)] [box b2 [.string ((d.gFrames_l.getD (i).toNat frm0).gName), .int .i64 ((d.gFrames_l.getD (i).toNat frm0).gID), .int .i64 ((d.gFrames_l.getD (i).toNat frm0).gLength), .bool ((d.gFrames_l.getD (i).toNat frm0).gGuarded), .slice ((d.gFrames_l.getD (i).toNat frm0).gSignals_a) ((d.gFrames_l.getD (i).toNat frm0).gSignals_n) ((d.gFrames_l.getD (i).toNat frm0).gSignals_c)] 34, box b1 [.slice d.gFrames_a d.gFrames_n d.gFrames_c] 24] (by kernel_rfl) rfl (by kernel_rfl) (by kernel_rfl) rfl ?_
  intro w4 S4
  refine J.run 6 K43_9 [(21, .pointer (some ⟨b2, 0, none⟩)), (4, .int .i64 i), (5, .pointer (some ⟨b2, 0, none⟩)), (15, .int .i64 i), (14, .int .i64 (d.gFrames_n : Int)), (13, .slice d.gFrames_a d.gFrames_n d.gFrames_c), (1, .pointer (some ⟨b1, 0, none⟩))] w4 (by kernel_rfl) ?_
  refine J.ok (OK.ldBox S4 0 22 9 0 (.string ((d.gFrames_l.getD (i).toNat frm0).gName)) (by kernel_rfl) rfl (by kernel_rfl)) ?_
  refine J.callF 23 64 #[.string ((d.gFrames_l.getD (i).toNat frm0).gName)] hb64 (by kernel_rfl) (name_any ((d.gFrames_l.getD (i).toNat frm0).gName) _ (by omega)) ?_
  rintro _ w5 ⟨rfl, T1⟩
  have S5 : Sep w [box b2 [.string ((d.gFrames_l.getD (i).toNat frm0).gName), .int .i64 ((d.gFrames_l.getD (i).toNat frm0).gID), .int .i64 ((d.gFrames_l.getD (i).toNat frm0).gLength), .bool ((d.gFrames_l.getD (i).toNat frm0).gGuarded), .slice ((d.gFrames_l.getD (i).toNat frm0).gSignals_a) ((d.gFrames_l.getD (i).toNat frm0).gSignals_n) ((d.gFrames_l.getD (i).toNat frm0).gSignals_c)] 34, box b1 [.slice d.gFrames_a d.gFrames_n d.gFrames_c] 24] w5 := S4.trans T1
  clear T1 S4
  refine J.run 3 K43_10 [(20, .bool (!(nameB ((d.gFrames_l.getD (i).toNat frm0).gName)))), (4, .int .i64 i), (5, .pointer (some ⟨b2, 0, none⟩)), (15, .int .i64 i), (14, .int .i64 (d.gFrames_n : Int)), (13, .slice d.gFrames_a d.gFrames_n d.gFrames_c), (1, .pointer (some ⟨b1, 0, none⟩))] w5 (by kernel_rfl) ?_
  rcases Bool.eq_false_or_eq_true (nameB ((d.gFrames_l.getD (i).toNat frm0).gName)) with fk3 | fk3
  rotate_left
  ·skip
   refine J.head (.bool true) (congrArg Value.bool (by rw [fk3]; rfl)) ?_
   refine J.run 4 K43_53 [(25, .pointer (some ⟨b2, 0, none⟩))] w5 (by kernel_rfl) ?_
   refine J.ok (OK.ldBox S5 0 26 9 0 (.string ((d.gFrames_l.getD (i).toNat frm0).gName)) (by kernel_rfl) rfl (by kernel_rfl)) ?_
   refine J.run 3 K43_54 [(3, .int .i64 1), (2, .string ((d.gFrames_l.getD (i).toNat frm0).gName))] w5 (by kernel_rfl) ?_
   refine J.ret Tryd.f43 [.string ((d.gFrames_l.getD (i).toNat frm0).gName), .int .i64 1] Tryd.func43 ⟨by kernel_rfl, by kernel_rfl, trivial⟩ ?_
   refine hR _ _ ?_
   have r0 := fault_at (d := d) (by omega) (by omega) hq (frm_head (hd1 fk3) (by decide)) (show (1 : Int) ≠ 0 by decide)
   exact ⟨by rw [tup_two, r0], S5.nil⟩
  refine J.head (.bool false) (congrArg Value.bool (by rw [fk3]; rfl)) ?_
  refine J.run 4 K43_11 [(28, .pointer (some ⟨b2, 1, none⟩)), (4, .int .i64 i), (5, .pointer (some ⟨b2, 0, none⟩)), (15, .int .i64 i), (14, .int .i64 (d.gFrames_n : Int)), (13, .slice d.gFrames_a d.gFrames_n d.gFrames_c), (1, .pointer (some ⟨b1, 0, none⟩))] w5 (by kernel_rfl) ?_
  refine J.ok (OK.ldBox S5 0 29 3 1 (.int .i64 ((d.gFrames_l.getD (i).toNat frm0).gID)) (by kernel_rfl) rfl (by kernel_rfl)) ?_
  refine J.callF 30 62 #[.int .i64 ((d.gFrames_l.getD (i).toNat frm0).gID), .int .i64 0, .int .i64 2047] hb62 (by kernel_rfl) (in_any ((d.gFrames_l.getD (i).toNat frm0).gID) 0 2047 _) ?_
  rintro _ w6 ⟨rfl, T2⟩
  have S6 : Sep w [box b2 [.string ((d.gFrames_l.getD (i).toNat frm0).gName), .int .i64 ((d.gFrames_l.getD (i).toNat frm0).gID), .int .i64 ((d.gFrames_l.getD (i).toNat frm0).gLength), .bool ((d.gFrames_l.getD (i).toNat frm0).gGuarded), .slice ((d.gFrames_l.getD (i).toNat frm0).gSignals_a) ((d.gFrames_l.getD (i).toNat frm0).gSignals_n) ((d.gFrames_l.getD (i).toNat frm0).gSignals_c)] 34, box b1 [.slice d.gFrames_a d.gFrames_n d.gFrames_c] 24] w6 := S5.trans T2
  clear T2 S5
  refine J.run 2 K43_12 [(32, .bool (!(inB ((d.gFrames_l.getD (i).toNat frm0).gID) 0 2047))), (4, .int .i64 i), (5, .pointer (some ⟨b2, 0, none⟩)), (15, .int .i64 i), (14, .int .i64 (d.gFrames_n : Int)), (13, .slice d.gFrames_a d.gFrames_n d.gFrames_c), (1, .pointer (some ⟨b1, 0, none⟩))] w6 (by kernel_rfl) ?_
  rcases Bool.eq_false_or_eq_true (inB ((d.gFrames_l.getD (i).toNat frm0).gID) 0 2047) with fk4 | fk4
  rotate_left
  ·skip
   refine J.head (.bool true) (congrArg Value.bool (by rw [fk4]; rfl)) ?_
   have fb4 := inB_not fk4
   refine J.run 20 K43_51 [(47, .pointer (some ⟨b2, 0, none⟩))] w6 (by kernel_rfl) ?_
   refine J.ok (OK.ldBox S6 0 48 9 0 (.string ((d.gFrames_l.getD (i).toNat frm0).gName)) (by kernel_rfl) rfl (by kernel_rfl)) ?_
   refine J.run 3 K43_52 [(3, .int .i64 2), (2, .string ((d.gFrames_l.getD (i).toNat frm0).gName))] w6 (by kernel_rfl) ?_
   refine J.ret Tryd.f43 [.string ((d.gFrames_l.getD (i).toNat frm0).gName), .int .i64 2] Tryd.func43 ⟨by kernel_rfl, by kernel_rfl, trivial⟩ ?_
   refine hR _ _ ?_
   have r0 := fault_at (d := d) (by omega) (by omega) hq (frm_head (hd2 fk3 (bad_yes (by first | omega | exact .inr (.inr ⟨rfl, by omega⟩)))) (by decide)) (show (2 : Int) ≠ 0 by decide)
   exact ⟨by rw [tup_two, r0], S6.nil⟩
  refine J.head (.bool false) (congrArg Value.bool (by rw [fk4]; rfl)) ?_
  have fb1 := inB_iff.1 fk4
  refine J.run 1 K43_13 [(33, .pointer (some ⟨b2, 2, none⟩)), (32, .bool false), (4, .int .i64 i), (5, .pointer (some ⟨b2, 0, none⟩)), (15, .int .i64 i), (14, .int .i64 (d.gFrames_n : Int)), (13, .slice d.gFrames_a d.gFrames_n d.gFrames_c), (1, .pointer (some ⟨b1, 0, none⟩))] w6 (by kernel_rfl) ?_
  refine J.ok (OK.ldBox S6 0 34 3 2 (.int .i64 ((d.gFrames_l.getD (i).toNat frm0).gLength)) (by kernel_rfl) rfl (by kernel_rfl)) ?_
  refine J.callF 35 62 #[.int .i64 ((d.gFrames_l.getD (i).toNat frm0).gLength), .int .i64 1, .int .i64 8] hb62 (by kernel_rfl) (in_any ((d.gFrames_l.getD (i).toNat frm0).gLength) 1 8 _) ?_
  rintro _ w7 ⟨rfl, T3⟩
  have S7 : Sep w [box b2 [.string ((d.gFrames_l.getD (i).toNat frm0).gName), .int .i64 ((d.gFrames_l.getD (i).toNat frm0).gID), .int .i64 ((d.gFrames_l.getD (i).toNat frm0).gLength), .bool ((d.gFrames_l.getD (i).toNat frm0).gGuarded), .slice ((d.gFrames_l.getD (i).toNat frm0).gSignals_a) ((d.gFrames_l.getD (i).toNat frm0).gSignals_n) ((d.gFrames_l.getD (i).toNat frm0).gSignals_c)] 34, box b1 [.slice d.gFrames_a d.gFrames_n d.gFrames_c] 24] w7 := S6.trans T3
  clear T3 S6
  refine J.run 3 K43_14 [(38, .bool (!(inB ((d.gFrames_l.getD (i).toNat frm0).gLength) 1 8))), (4, .int .i64 i), (5, .pointer (some ⟨b2, 0, none⟩)), (15, .int .i64 i), (14, .int .i64 (d.gFrames_n : Int)), (13, .slice d.gFrames_a d.gFrames_n d.gFrames_c), (1, .pointer (some ⟨b1, 0, none⟩))] w7 (by kernel_rfl) ?_
  rcases Bool.eq_false_or_eq_true (inB ((d.gFrames_l.getD (i).toNat frm0).gLength) 1 8) with fk5 | fk5
  rotate_left
  ·skip
   refine J.head (.bool true) (congrArg Value.bool (by rw [fk5]; rfl)) ?_
   have fb3 := inB_not fk5
   refine J.run 14 K43_49 [(47, .pointer (some ⟨b2, 0, none⟩))] w7 (by kernel_rfl) ?_
   refine J.ok (OK.ldBox S7 0 48 9 0 (.string ((d.gFrames_l.getD (i).toNat frm0).gName)) (by kernel_rfl) rfl (by kernel_rfl)) ?_
   refine J.run 3 K43_50 [(3, .int .i64 2), (2, .string ((d.gFrames_l.getD (i).toNat frm0).gName))] w7 (by kernel_rfl) ?_
   refine J.ret Tryd.f43 [.string ((d.gFrames_l.getD (i).toNat frm0).gName), .int .i64 2] Tryd.func43 ⟨by kernel_rfl, by kernel_rfl, trivial⟩ ?_
   refine hR _ _ ?_
   have r0 := fault_at (d := d) (by omega) (by omega) hq (frm_head (hd2 fk3 (bad_yes (by first | omega | exact .inr (.inr ⟨rfl, by omega⟩)))) (by decide)) (show (2 : Int) ≠ 0 by decide)
   exact ⟨by rw [tup_two, r0], S7.nil⟩
  refine J.head (.bool false) (congrArg Value.bool (by rw [fk5]; rfl)) ?_
  have fb2 := inB_iff.1 fk5
  refine J.run 1 K43_15 [(39, .pointer (some ⟨b2, 3, none⟩)), (38, .bool false), (4, .int .i64 i), (5, .pointer (some ⟨b2, 0, none⟩)), (15, .int .i64 i), (14, .int .i64 (d.gFrames_n : Int)), (13, .slice d.gFrames_a d.gFrames_n d.gFrames_c), (1, .pointer (some ⟨b1, 0, none⟩))] w7 (by kernel_rfl) ?_
  refine J.ok (OK.ldBox S7 0 40 4 3 (.bool ((d.gFrames_l.getD (i).toNat frm0).gGuarded)) (by kernel_rfl) rfl (by kernel_rfl)) ?_
  refine J.run 1 K43_16 [(41, .bool ((d.gFrames_l.getD (i).toNat frm0).gGuarded)), (38, .bool false), (4, .int .i64 i), (5, .pointer (some ⟨b2, 0, none⟩)), (15, .int .i64 i), (14, .int .i64 (d.gFrames_n : Int)), (13, .slice d.gFrames_a d.gFrames_n d.gFrames_c), (1, .pointer (some ⟨b1, 0, none⟩))] w7 (by kernel_rfl) ?_
  rcases Bool.eq_false_or_eq_true ((d.gFrames_l.getD (i).toNat frm0).gGuarded) with fk6 | fk6
  rotate_left
  ·skip
   refine J.head (.bool false) (congrArg Value.bool fk6) ?_
   refine J.run 11 K43_35 [(50, .pointer (some ⟨b2, 4, none⟩)), (4, .int .i64 i), (5, .pointer (some ⟨b2, 0, none⟩)), (15, .int .i64 i), (14, .int .i64 (d.gFrames_n : Int)), (13, .slice d.gFrames_a d.gFrames_n d.gFrames_c), (1, .pointer (some ⟨b1, 0, none⟩))] w7 (by kernel_rfl) ?_
   refine J.ok (OK.ldBox S7 0 51 32 4 (.slice ((d.gFrames_l.getD (i).toNat frm0).gSignals_a) ((d.gFrames_l.getD (i).toNat frm0).gSignals_n) ((d.gFrames_l.getD (i).toNat frm0).gSignals_c)) (by kernel_rfl) rfl (by kernel_rfl)) ?_
   refine J.run 4 K43_36 [(49, .bool (decide (((d.gFrames_l.getD (i).toNat frm0).gSignals_n : Int) > 16))), (4, .int .i64 i), (5, .pointer (some ⟨b2, 0, none⟩)), (15, .int .i64 i), (14, .int .i64 (d.gFrames_n : Int)), (13, .slice d.gFrames_a d.gFrames_n d.gFrames_c), (1, .pointer (some ⟨b1, 0, none⟩))] w7 (by kernel_rfl) ?_
   by_cases fk11 : ((d.gFrames_l.getD (i).toNat frm0).gSignals_n : Int) > 16
   ·skip
    refine J.head (.bool true) (congrArg Value.bool (decide_eq_true fk11)) ?_
    refine J.run 4 K43_37 [(54, .pointer (some ⟨b2, 0, none⟩))] w7 (by kernel_rfl) ?_
    refine J.ok (OK.ldBox S7 0 55 9 0 (.string ((d.gFrames_l.getD (i).toNat frm0).gName)) (by kernel_rfl) rfl (by kernel_rfl)) ?_
    refine J.run 3 K43_38 [(3, .int .i64 5), (2, .string ((d.gFrames_l.getD (i).toNat frm0).gName))] w7 (by kernel_rfl) ?_
    refine J.ret Tryd.f43 [.string ((d.gFrames_l.getD (i).toNat frm0).gName), .int .i64 5] Tryd.func43 ⟨by kernel_rfl, by kernel_rfl, trivial⟩ ?_
    refine hR _ _ ?_
    have r0 := fault_at (d := d) (by omega) (by omega) hq (frm_head (hd5 fk3 (bad_no (by omega) (by omega) (.inl fk6)) (by omega)) (by decide)) (show (5 : Int) ≠ 0 by decide)
    exact ⟨by rw [tup_two, r0], S7.nil⟩
   refine J.head (.bool false) (congrArg Value.bool (decide_eq_false fk11)) ?_
   refine J.run 4 K43_39 [(57, .pointer (some ⟨b1, 0, none⟩)), (4, .int .i64 i), (5, .pointer (some ⟨b2, 0, none⟩)), (15, .int .i64 i), (14, .int .i64 (d.gFrames_n : Int)), (13, .slice d.gFrames_a d.gFrames_n d.gFrames_c), (1, .pointer (some ⟨b1, 0, none⟩))] w7 (by kernel_rfl) ?_
   refine J.ok (OK.ldBox S7 1 58 22 0 (.slice d.gFrames_a d.gFrames_n d.gFrames_c) (by kernel_rfl) rfl (by kernel_rfl)) ?_
   refine J.run 1 K43_40 [(59, .int .i64 i), (58, .slice d.gFrames_a d.gFrames_n d.gFrames_c), (5, .pointer (some ⟨b2, 0, none⟩)), (15, .int .i64 i), (14, .int .i64 (d.gFrames_n : Int)), (13, .slice d.gFrames_a d.gFrames_n d.gFrames_c), (1, .pointer (some ⟨b1, 0, none⟩))] w7 (by kernel_rfl) ?_
   refine J.ok (OK.slice 60 22 5 d.gFrames_a d.gFrames_n d.gFrames_c none (some (.int .i64 i)) 0 ((i).toNat) (by kernel_rfl) (by kernel_rfl) (.inl ⟨rfl, rfl⟩) (.inr ⟨_, _, rfl, by omega⟩) (by first | omega | (simp; omega)) (by first | omega | (simp; omega))) ?_
   refine J.head (.slice d.gFrames_a ((i).toNat) d.gFrames_c) (by rw [subA_zero]; try rfl) ?_
   refine J.run 1 K43_41 [(61, .func (.func 65) #[] #[.pointer (some ⟨b2, 0, none⟩)]), (60, .slice d.gFrames_a ((i).toNat) d.gFrames_c), (5, .pointer (some ⟨b2, 0, none⟩)), (15, .int .i64 i), (14, .int .i64 (d.gFrames_n : Int)), (13, .slice d.gFrames_a d.gFrames_n d.gFrames_c), (1, .pointer (some ⟨b1, 0, none⟩))] w7 (by kernel_rfl) ?_
   refine J.callF 62 25 #[.slice d.gFrames_a ((i).toNat) d.gFrames_c, .func (.func 65) #[] #[.pointer (some ⟨b2, 0, none⟩)]] hb25 (by kernel_rfl) (containsFr1 d.gFrames_a ((i).toNat) d.gFrames_c (d.gFrames_l.take ((i).toNat)) 65 (.pointer (some ⟨b2, 0, none⟩)) (twinB (d.gFrames_l.getD (i).toNat frm0)) _ ((q2.sep S7).take ((i).toNat) (by first | omega | (simp; omega))) (by first | omega | (simp; omega)) hb65 (fun i_ w_ hi_ S_ => twin_any (d.gFrames_l.getD (i).toNat frm0) _ b2 w_ (box_keep (S7.nth 0 rfl) S_))) ?_
   rintro _ w10 ⟨rfl, T6⟩
   have S11 : Sep w [box b2 [.string ((d.gFrames_l.getD (i).toNat frm0).gName), .int .i64 ((d.gFrames_l.getD (i).toNat frm0).gID), .int .i64 ((d.gFrames_l.getD (i).toNat frm0).gLength), .bool ((d.gFrames_l.getD (i).toNat frm0).gGuarded), .slice ((d.gFrames_l.getD (i).toNat frm0).gSignals_a) ((d.gFrames_l.getD (i).toNat frm0).gSignals_n) ((d.gFrames_l.getD (i).toNat frm0).gSignals_c)] 34, box b1 [.slice d.gFrames_a d.gFrames_n d.gFrames_c] 24] w10 := S7.trans T6
   clear T6 S7
   refine J.run 2 K43_42 [(56, .bool (List.any (d.gFrames_l.take ((i).toNat)) (twinB (d.gFrames_l.getD (i).toNat frm0)))), (5, .pointer (some ⟨b2, 0, none⟩)), (15, .int .i64 i), (14, .int .i64 (d.gFrames_n : Int)), (13, .slice d.gFrames_a d.gFrames_n d.gFrames_c), (1, .pointer (some ⟨b1, 0, none⟩))] w10 (by kernel_rfl) ?_
   rcases Bool.eq_false_or_eq_true (List.any (d.gFrames_l.take ((i).toNat)) (twinB (d.gFrames_l.getD (i).toNat frm0))) with fk12 | fk12
   ·skip
    refine J.head (.bool true) (congrArg Value.bool fk12) ?_
    refine J.run 4 K43_43 [(63, .pointer (some ⟨b2, 0, none⟩))] w10 (by kernel_rfl) ?_
    refine J.ok (OK.ldBox S11 0 64 9 0 (.string ((d.gFrames_l.getD (i).toNat frm0).gName)) (by kernel_rfl) rfl (by kernel_rfl)) ?_
    refine J.run 3 K43_44 [(3, .int .i64 8), (2, .string ((d.gFrames_l.getD (i).toNat frm0).gName))] w10 (by kernel_rfl) ?_
    refine J.ret Tryd.f43 [.string ((d.gFrames_l.getD (i).toNat frm0).gName), .int .i64 8] Tryd.func43 ⟨by kernel_rfl, by kernel_rfl, trivial⟩ ?_
    refine hR _ _ ?_
    have r0 := fault_at (d := d) (by omega) (by omega) hq (frm_head (hd8 fk3 (bad_no (by omega) (by omega) (.inl fk6)) (by omega) fk12) (by decide)) (show (8 : Int) ≠ 0 by decide)
    exact ⟨by rw [tup_two, r0], S11.nil⟩
   refine J.head (.bool false) (congrArg Value.bool fk12) ?_
   refine J.run 5 K43_45 [(5, .pointer (some ⟨b2, 0, none⟩)), (15, .int .i64 i), (14, .int .i64 (d.gFrames_n : Int)), (13, .slice d.gFrames_a d.gFrames_n d.gFrames_c), (1, .pointer (some ⟨b1, 0, none⟩))] w10 (by kernel_rfl) ?_
   refine J.ok (OK.ldBox S11 0 66 34 0 (.agg #[.string ((d.gFrames_l.getD (i).toNat frm0).gName), .int .i64 ((d.gFrames_l.getD (i).toNat frm0).gID), .int .i64 ((d.gFrames_l.getD (i).toNat frm0).gLength), .bool ((d.gFrames_l.getD (i).toNat frm0).gGuarded), .slice ((d.gFrames_l.getD (i).toNat frm0).gSignals_a) ((d.gFrames_l.getD (i).toNat frm0).gSignals_n) ((d.gFrames_l.getD (i).toNat frm0).gSignals_c)]) (by kernel_rfl) rfl (by kernel_rfl)) ?_
   refine J.callF 67 66 #[.agg #[.string ((d.gFrames_l.getD (i).toNat frm0).gName), .int .i64 ((d.gFrames_l.getD (i).toNat frm0).gID), .int .i64 ((d.gFrames_l.getD (i).toNat frm0).gLength), .bool ((d.gFrames_l.getD (i).toNat frm0).gGuarded), .slice ((d.gFrames_l.getD (i).toNat frm0).gSignals_a) ((d.gFrames_l.getD (i).toNat frm0).gSignals_n) ((d.gFrames_l.getD (i).toNat frm0).gSignals_c)]] hb66 (by kernel_rfl) (signals_any (d.gFrames_l.getD (i).toNat frm0) _ (frmQ_sep hel1 S11) (by omega)) ?_
   rintro _ w11 ⟨rfl, T7⟩
   have S12 : Sep w [box b2 [.string ((d.gFrames_l.getD (i).toNat frm0).gName), .int .i64 ((d.gFrames_l.getD (i).toNat frm0).gID), .int .i64 ((d.gFrames_l.getD (i).toNat frm0).gLength), .bool ((d.gFrames_l.getD (i).toNat frm0).gGuarded), .slice ((d.gFrames_l.getD (i).toNat frm0).gSignals_a) ((d.gFrames_l.getD (i).toNat frm0).gSignals_n) ((d.gFrames_l.getD (i).toNat frm0).gSignals_c)] 34, box b1 [.slice d.gFrames_a d.gFrames_n d.gFrames_c] 24] w11 := S11.trans T7
   clear T7 S11
   refine J.run 11 K43_46 [(71, .bool (((sigsF (d.gFrames_l.getD (i).toNat frm0)).2) != 0)), (7, .int .i64 ((sigsF (d.gFrames_l.getD (i).toNat frm0)).2)), (6, .string ((sigsF (d.gFrames_l.getD (i).toNat frm0)).1)), (15, .int .i64 i), (14, .int .i64 (d.gFrames_n : Int)), (13, .slice d.gFrames_a d.gFrames_n d.gFrames_c), (1, .pointer (some ⟨b1, 0, none⟩))] w11 (by kernel_rfl) ?_
   by_cases fk13 : ((sigsF (d.gFrames_l.getD (i).toNat frm0)).2) = 0
   rotate_left
   ·skip
    refine J.head (.bool true) (congrArg Value.bool (bne_iff_ne.2 fk13)) ?_
    refine J.run 8 K43_48 [(3, .int .i64 ((sigsF (d.gFrames_l.getD (i).toNat frm0)).2)), (2, .string ((sigsF (d.gFrames_l.getD (i).toNat frm0)).1))] w11 (by kernel_rfl) ?_
    refine J.ret Tryd.f43 [.string ((sigsF (d.gFrames_l.getD (i).toNat frm0)).1), .int .i64 ((sigsF (d.gFrames_l.getD (i).toNat frm0)).2)] Tryd.func43 ⟨by kernel_rfl, by kernel_rfl, trivial⟩ ?_
    refine hR _ _ ?_
    have r0 := fault_at (d := d) (by omega) (by omega) hq (frm_sig (hd0 fk3 (bad_no (by omega) (by omega) (.inl fk6)) (by omega) fk12)) fk13
    exact ⟨by rw [tup_two, r0], S12.nil⟩
   refine J.head (.bool false) (congrArg Value.bool (bne_eq_false_iff_eq.2 fk13)) ?_
   refine J.run 5 K43_47 [(74, .int .i64 (IntKind.wrap .i64 (i + 1))), (14, .int .i64 (d.gFrames_n : Int)), (13, .slice d.gFrames_a d.gFrames_n d.gFrames_c), (1, .pointer (some ⟨b1, 0, none⟩))] w11 (by kernel_rfl) ?_
   refine J.head (.int .i64 (i + 1)) (congrArg (Value.int .i64) (IntWalk.i64_in _ (by omega))) ?_
   refine J.run 3 K43_5 [(15, .int .i64 (i + 1)), (14, .int .i64 (d.gFrames_n : Int)), (13, .slice d.gFrames_a d.gFrames_n d.gFrames_c), (1, .pointer (some ⟨b1, 0, none⟩))] w11 (by kernel_rfl) ?_
   have S13 : Sep w [box b1 [.slice d.gFrames_a d.gFrames_n d.gFrames_c] 24] w11 := S12.erase 0
   clear S12
   refine J.run 0 K43_5 [(15, .int .i64 (i + 1)), (14, .int .i64 (d.gFrames_n : Int)), (13, .slice d.gFrames_a d.gFrames_n d.gFrames_c), (1, .pointer (some ⟨b1, 0, none⟩))] w11 (by kernel_rfl) ?_
   exact ih1 _ (show ((d.gFrames_n : Int) - (i + 1)).toNat < mm1 from by omega) (i + 1) w11 (by omega) (by omega) (frm_step h0 hq (by rw [frm_sig (hd0 fk3 (bad_no (by omega) (by omega) (.inl fk6)) (by omega) fk12)]; exact fk13)) S13 rfl
  refine J.head (.bool true) (congrArg Value.bool fk6) ?_
  refine J.run 1 K43_17 [(42, .pointer (some ⟨b2, 2, none⟩)), (41, .bool true), (38, .bool false), (4, .int .i64 i), (5, .pointer (some ⟨b2, 0, none⟩)), (15, .int .i64 i), (14, .int .i64 (d.gFrames_n : Int)), (13, .slice d.gFrames_a d.gFrames_n d.gFrames_c), (1, .pointer (some ⟨b1, 0, none⟩))] w7 (by kernel_rfl) ?_
  refine J.ok (OK.ldBox S7 0 43 3 2 (.int .i64 ((d.gFrames_l.getD (i).toNat frm0).gLength)) (by kernel_rfl) rfl (by kernel_rfl)) ?_
  refine J.run 5 K43_18 [(27, .bool (decide (((d.gFrames_l.getD (i).toNat frm0).gLength) < 2))), (4, .int .i64 i), (5, .pointer (some ⟨b2, 0, none⟩)), (15, .int .i64 i), (14, .int .i64 (d.gFrames_n : Int)), (13, .slice d.gFrames_a d.gFrames_n d.gFrames_c), (1, .pointer (some ⟨b1, 0, none⟩))] w7 (by kernel_rfl) ?_
  by_cases fk7 : ((d.gFrames_l.getD (i).toNat frm0).gLength) < 2
  ·skip
   refine J.head (.bool true) (congrArg Value.bool (decide_eq_true fk7)) ?_
   refine J.run 4 K43_19 [(47, .pointer (some ⟨b2, 0, none⟩))] w7 (by kernel_rfl) ?_
   refine J.ok (OK.ldBox S7 0 48 9 0 (.string ((d.gFrames_l.getD (i).toNat frm0).gName)) (by kernel_rfl) rfl (by kernel_rfl)) ?_
   refine J.run 3 K43_20 [(3, .int .i64 2), (2, .string ((d.gFrames_l.getD (i).toNat frm0).gName))] w7 (by kernel_rfl) ?_
   refine J.ret Tryd.f43 [.string ((d.gFrames_l.getD (i).toNat frm0).gName), .int .i64 2] Tryd.func43 ⟨by kernel_rfl, by kernel_rfl, trivial⟩ ?_
   refine hR _ _ ?_
   have r0 := fault_at (d := d) (by omega) (by omega) hq (frm_head (hd2 fk3 (bad_yes (by first | omega | exact .inr (.inr ⟨fk6, by omega⟩)))) (by decide)) (show (2 : Int) ≠ 0 by decide)
   exact ⟨by rw [tup_two, r0], S7.nil⟩
  refine J.head (.bool false) (congrArg Value.bool (decide_eq_false fk7)) ?_
  refine J.run 4 K43_21 [(50, .pointer (some ⟨b2, 4, none⟩)), (4, .int .i64 i), (5, .pointer (some ⟨b2, 0, none⟩)), (15, .int .i64 i), (14, .int .i64 (d.gFrames_n : Int)), (13, .slice d.gFrames_a d.gFrames_n d.gFrames_c), (1, .pointer (some ⟨b1, 0, none⟩))] w7 (by kernel_rfl) ?_
  refine J.ok (OK.ldBox S7 0 51 32 4 (.slice ((d.gFrames_l.getD (i).toNat frm0).gSignals_a) ((d.gFrames_l.getD (i).toNat frm0).gSignals_n) ((d.gFrames_l.getD (i).toNat frm0).gSignals_c)) (by kernel_rfl) rfl (by kernel_rfl)) ?_
  refine J.run 4 K43_22 [(49, .bool (decide (((d.gFrames_l.getD (i).toNat frm0).gSignals_n : Int) > 16))), (4, .int .i64 i), (5, .pointer (some ⟨b2, 0, none⟩)), (15, .int .i64 i), (14, .int .i64 (d.gFrames_n : Int)), (13, .slice d.gFrames_a d.gFrames_n d.gFrames_c), (1, .pointer (some ⟨b1, 0, none⟩))] w7 (by kernel_rfl) ?_
  by_cases fk8 : ((d.gFrames_l.getD (i).toNat frm0).gSignals_n : Int) > 16
  ·skip
   refine J.head (.bool true) (congrArg Value.bool (decide_eq_true fk8)) ?_
   refine J.run 4 K43_23 [(54, .pointer (some ⟨b2, 0, none⟩))] w7 (by kernel_rfl) ?_
   refine J.ok (OK.ldBox S7 0 55 9 0 (.string ((d.gFrames_l.getD (i).toNat frm0).gName)) (by kernel_rfl) rfl (by kernel_rfl)) ?_
   refine J.run 3 K43_24 [(3, .int .i64 5), (2, .string ((d.gFrames_l.getD (i).toNat frm0).gName))] w7 (by kernel_rfl) ?_
   refine J.ret Tryd.f43 [.string ((d.gFrames_l.getD (i).toNat frm0).gName), .int .i64 5] Tryd.func43 ⟨by kernel_rfl, by kernel_rfl, trivial⟩ ?_
   refine hR _ _ ?_
   have r0 := fault_at (d := d) (by omega) (by omega) hq (frm_head (hd5 fk3 (bad_no (by omega) (by omega) (.inr (by omega))) (by omega)) (by decide)) (show (5 : Int) ≠ 0 by decide)
   exact ⟨by rw [tup_two, r0], S7.nil⟩
  refine J.head (.bool false) (congrArg Value.bool (decide_eq_false fk8)) ?_
  refine J.run 4 K43_25 [(57, .pointer (some ⟨b1, 0, none⟩)), (4, .int .i64 i), (5, .pointer (some ⟨b2, 0, none⟩)), (15, .int .i64 i), (14, .int .i64 (d.gFrames_n : Int)), (13, .slice d.gFrames_a d.gFrames_n d.gFrames_c), (1, .pointer (some ⟨b1, 0, none⟩))] w7 (by kernel_rfl) ?_
  refine J.ok (OK.ldBox S7 1 58 22 0 (.slice d.gFrames_a d.gFrames_n d.gFrames_c) (by kernel_rfl) rfl (by kernel_rfl)) ?_
  refine J.run 1 K43_26 [(59, .int .i64 i), (58, .slice d.gFrames_a d.gFrames_n d.gFrames_c), (5, .pointer (some ⟨b2, 0, none⟩)), (15, .int .i64 i), (14, .int .i64 (d.gFrames_n : Int)), (13, .slice d.gFrames_a d.gFrames_n d.gFrames_c), (1, .pointer (some ⟨b1, 0, none⟩))] w7 (by kernel_rfl) ?_
  refine J.ok (OK.slice 60 22 5 d.gFrames_a d.gFrames_n d.gFrames_c none (some (.int .i64 i)) 0 ((i).toNat) (by kernel_rfl) (by kernel_rfl) (.inl ⟨rfl, rfl⟩) (.inr ⟨_, _, rfl, by omega⟩) (by first | omega | (simp; omega)) (by first | omega | (simp; omega))) ?_
  refine J.head (.slice d.gFrames_a ((i).toNat) d.gFrames_c) (by rw [subA_zero]; try rfl) ?_
  refine J.run 1 K43_27 [(61, .func (.func 65) #[] #[.pointer (some ⟨b2, 0, none⟩)]), (60, .slice d.gFrames_a ((i).toNat) d.gFrames_c), (5, .pointer (some ⟨b2, 0, none⟩)), (15, .int .i64 i), (14, .int .i64 (d.gFrames_n : Int)), (13, .slice d.gFrames_a d.gFrames_n d.gFrames_c), (1, .pointer (some ⟨b1, 0, none⟩))] w7 (by kernel_rfl) ?_
  refine J.callF 62 25 #[.slice d.gFrames_a ((i).toNat) d.gFrames_c, .func (.func 65) #[] #[.pointer (some ⟨b2, 0, none⟩)]] hb25 (by kernel_rfl) (containsFr1 d.gFrames_a ((i).toNat) d.gFrames_c (d.gFrames_l.take ((i).toNat)) 65 (.pointer (some ⟨b2, 0, none⟩)) (twinB (d.gFrames_l.getD (i).toNat frm0)) _ ((q2.sep S7).take ((i).toNat) (by first | omega | (simp; omega))) (by first | omega | (simp; omega)) hb65 (fun i_ w_ hi_ S_ => twin_any (d.gFrames_l.getD (i).toNat frm0) _ b2 w_ (box_keep (S7.nth 0 rfl) S_))) ?_
  rintro _ w8 ⟨rfl, T4⟩
  have S8 : Sep w [box b2 [.string ((d.gFrames_l.getD (i).toNat frm0).gName), .int .i64 ((d.gFrames_l.getD (i).toNat frm0).gID), .int .i64 ((d.gFrames_l.getD (i).toNat frm0).gLength), .bool ((d.gFrames_l.getD (i).toNat frm0).gGuarded), .slice ((d.gFrames_l.getD (i).toNat frm0).gSignals_a) ((d.gFrames_l.getD (i).toNat frm0).gSignals_n) ((d.gFrames_l.getD (i).toNat frm0).gSignals_c)] 34, box b1 [.slice d.gFrames_a d.gFrames_n d.gFrames_c] 24] w8 := S7.trans T4
  clear T4 S7
  refine J.run 2 K43_28 [(56, .bool (List.any (d.gFrames_l.take ((i).toNat)) (twinB (d.gFrames_l.getD (i).toNat frm0)))), (5, .pointer (some ⟨b2, 0, none⟩)), (15, .int .i64 i), (14, .int .i64 (d.gFrames_n : Int)), (13, .slice d.gFrames_a d.gFrames_n d.gFrames_c), (1, .pointer (some ⟨b1, 0, none⟩))] w8 (by kernel_rfl) ?_
  rcases Bool.eq_false_or_eq_true (List.any (d.gFrames_l.take ((i).toNat)) (twinB (d.gFrames_l.getD (i).toNat frm0))) with fk9 | fk9
  ·skip
   refine J.head (.bool true) (congrArg Value.bool fk9) ?_
   refine J.run 4 K43_29 [(63, .pointer (some ⟨b2, 0, none⟩))] w8 (by kernel_rfl) ?_
   refine J.ok (OK.ldBox S8 0 64 9 0 (.string ((d.gFrames_l.getD (i).toNat frm0).gName)) (by kernel_rfl) rfl (by kernel_rfl)) ?_
   refine J.run 3 K43_30 [(3, .int .i64 8), (2, .string ((d.gFrames_l.getD (i).toNat frm0).gName))] w8 (by kernel_rfl) ?_
   refine J.ret Tryd.f43 [.string ((d.gFrames_l.getD (i).toNat frm0).gName), .int .i64 8] Tryd.func43 ⟨by kernel_rfl, by kernel_rfl, trivial⟩ ?_
   refine hR _ _ ?_
   have r0 := fault_at (d := d) (by omega) (by omega) hq (frm_head (hd8 fk3 (bad_no (by omega) (by omega) (.inr (by omega))) (by omega) fk9) (by decide)) (show (8 : Int) ≠ 0 by decide)
   exact ⟨by rw [tup_two, r0], S8.nil⟩
  refine J.head (.bool false) (congrArg Value.bool fk9) ?_
  refine J.run 5 K43_31 [(5, .pointer (some ⟨b2, 0, none⟩)), (15, .int .i64 i), (14, .int .i64 (d.gFrames_n : Int)), (13, .slice d.gFrames_a d.gFrames_n d.gFrames_c), (1, .pointer (some ⟨b1, 0, none⟩))] w8 (by kernel_rfl) ?_
  refine J.ok (OK.ldBox S8 0 66 34 0 (.agg #[.string ((d.gFrames_l.getD (i).toNat frm0).gName), .int .i64 ((d.gFrames_l.getD (i).toNat frm0).gID), .int .i64 ((d.gFrames_l.getD (i).toNat frm0).gLength), .bool ((d.gFrames_l.getD (i).toNat frm0).gGuarded), .slice ((d.gFrames_l.getD (i).toNat frm0).gSignals_a) ((d.gFrames_l.getD (i).toNat frm0).gSignals_n) ((d.gFrames_l.getD (i).toNat frm0).gSignals_c)]) (by kernel_rfl) rfl (by kernel_rfl)) ?_
  refine J.callF 67 66 #[.agg #[.string ((d.gFrames_l.getD (i).toNat frm0).gName), .int .i64 ((d.gFrames_l.getD (i).toNat frm0).gID), .int .i64 ((d.gFrames_l.getD (i).toNat frm0).gLength), .bool ((d.gFrames_l.getD (i).toNat frm0).gGuarded), .slice ((d.gFrames_l.getD (i).toNat frm0).gSignals_a) ((d.gFrames_l.getD (i).toNat frm0).gSignals_n) ((d.gFrames_l.getD (i).toNat frm0).gSignals_c)]] hb66 (by kernel_rfl) (signals_any (d.gFrames_l.getD (i).toNat frm0) _ (frmQ_sep hel1 S8) (by omega)) ?_
  rintro _ w9 ⟨rfl, T5⟩
  have S9 : Sep w [box b2 [.string ((d.gFrames_l.getD (i).toNat frm0).gName), .int .i64 ((d.gFrames_l.getD (i).toNat frm0).gID), .int .i64 ((d.gFrames_l.getD (i).toNat frm0).gLength), .bool ((d.gFrames_l.getD (i).toNat frm0).gGuarded), .slice ((d.gFrames_l.getD (i).toNat frm0).gSignals_a) ((d.gFrames_l.getD (i).toNat frm0).gSignals_n) ((d.gFrames_l.getD (i).toNat frm0).gSignals_c)] 34, box b1 [.slice d.gFrames_a d.gFrames_n d.gFrames_c] 24] w9 := S8.trans T5
  clear T5 S8
  refine J.run 11 K43_32 [(71, .bool (((sigsF (d.gFrames_l.getD (i).toNat frm0)).2) != 0)), (7, .int .i64 ((sigsF (d.gFrames_l.getD (i).toNat frm0)).2)), (6, .string ((sigsF (d.gFrames_l.getD (i).toNat frm0)).1)), (15, .int .i64 i), (14, .int .i64 (d.gFrames_n : Int)), (13, .slice d.gFrames_a d.gFrames_n d.gFrames_c), (1, .pointer (some ⟨b1, 0, none⟩))] w9 (by kernel_rfl) ?_
  by_cases fk10 : ((sigsF (d.gFrames_l.getD (i).toNat frm0)).2) = 0
  rotate_left
  ·skip
   refine J.head (.bool true) (congrArg Value.bool (bne_iff_ne.2 fk10)) ?_
   refine J.run 8 K43_34 [(3, .int .i64 ((sigsF (d.gFrames_l.getD (i).toNat frm0)).2)), (2, .string ((sigsF (d.gFrames_l.getD (i).toNat frm0)).1))] w9 (by kernel_rfl) ?_
   refine J.ret Tryd.f43 [.string ((sigsF (d.gFrames_l.getD (i).toNat frm0)).1), .int .i64 ((sigsF (d.gFrames_l.getD (i).toNat frm0)).2)] Tryd.func43 ⟨by kernel_rfl, by kernel_rfl, trivial⟩ ?_
   refine hR _ _ ?_
   have r0 := fault_at (d := d) (by omega) (by omega) hq (frm_sig (hd0 fk3 (bad_no (by omega) (by omega) (.inr (by omega))) (by omega) fk9)) fk10
   exact ⟨by rw [tup_two, r0], S9.nil⟩
  refine J.head (.bool false) (congrArg Value.bool (bne_eq_false_iff_eq.2 fk10)) ?_
  refine J.run 5 K43_33 [(74, .int .i64 (IntKind.wrap .i64 (i + 1))), (14, .int .i64 (d.gFrames_n : Int)), (13, .slice d.gFrames_a d.gFrames_n d.gFrames_c), (1, .pointer (some ⟨b1, 0, none⟩))] w9 (by kernel_rfl) ?_
  refine J.head (.int .i64 (i + 1)) (congrArg (Value.int .i64) (IntWalk.i64_in _ (by omega))) ?_
  refine J.run 3 K43_5 [(15, .int .i64 (i + 1)), (14, .int .i64 (d.gFrames_n : Int)), (13, .slice d.gFrames_a d.gFrames_n d.gFrames_c), (1, .pointer (some ⟨b1, 0, none⟩))] w9 (by kernel_rfl) ?_
  have S10 : Sep w [box b1 [.slice d.gFrames_a d.gFrames_n d.gFrames_c] 24] w9 := S9.erase 0
  clear S9
  refine J.run 0 K43_5 [(15, .int .i64 (i + 1)), (14, .int .i64 (d.gFrames_n : Int)), (13, .slice d.gFrames_a d.gFrames_n d.gFrames_c), (1, .pointer (some ⟨b1, 0, none⟩))] w9 (by kernel_rfl) ?_
  exact ih1 _ (show ((d.gFrames_n : Int) - (i + 1)).toNat < mm1 from by omega) (i + 1) w9 (by omega) (by omega) (frm_step h0 hq (by rw [frm_sig (hd0 fk3 (bad_no (by omega) (by omega) (.inr (by omega))) (by omega) fk9)]; exact fk10)) S10 rfl
 exact L43_1 _ 0 w1 (by omega) (by omega) (by intro j hj; simp at hj) S1 rfl

end
end Go.Proofs.YthiklimfffhbaaaDoor

