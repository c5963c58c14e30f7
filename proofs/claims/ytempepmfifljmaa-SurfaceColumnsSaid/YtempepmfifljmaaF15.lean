/- Walks of functions of this seat, printed by a program over the engine. Conditions: as each theorem says. -/
import Derived.Test.YtempepmfifljmaaF14
namespace Go.Proofs.Ytempepmfifljmaa
open Go.Eng Go.RowKit
set_option linter.unusedSimpArgs false
set_option linter.unusedVariables false

theorem list_ext_getD {l m : List Int} (h : l.length = m.length) (h2 : ∀ k, k < l.length → l.getD k 0 = m.getD k 0) : l = m := by
  apply List.ext_getElem h
  intro k h3 h4
  have := h2 k h3
  simpa [List.getD, h3, h4] using this
theorem beq_no {l m : List Int} {n k : Nat} (h : l.length = n) (h2 : m.length = k) (hne : (n : Int) ≠ k) : (l == m) = false := by
  rw [beq_eq_false_iff_ne]; intro e; rw [e] at h; omega
theorem beq_at {l m : List Int} {i : Nat} (h : l.getD i 0 ≠ m.getD i 0) : (l == m) = false := by
  rw [beq_eq_false_iff_ne]; intro e; rw [e] at h; exact h rfl
theorem beq_all {l m : List Int} (h : l.length = m.length) (h2 : ∀ j, j < l.length → l.getD j 0 = m.getD j 0) : (l == m) = true := by rw [beq_iff_eq]; exact list_ext_getD h h2

theorem hb30 : HasBody Try.prog 30 := fun _ _ => by kernel_rfl
noncomputable def K30_0 : List Item := adv 13 [] (bodyOf Try.f30)
noncomputable def K30_1 : List Item := adv 11 [false] K30_0
noncomputable def K30_2 : List Item := adv 5 [] K30_1
noncomputable def K30_3 : List Item := adv 10 [true] K30_2
noncomputable def K30_4 : List Item := adv 5 [false] (rRest K30_3)
noncomputable def K30_5 : List Item := adv 5 [true] (rRest K30_3)
noncomputable def K30_6 : List Item := adv 6 [false] K30_2
noncomputable def K30_7 : List Item := adv 5 [true] K30_0
set_option maxRecDepth 20000 in
set_option maxHeartbeats 20000000 in
theorem equal_any (la : Option Addr) (len cap : Nat) (l : List Int) (ma : Option Addr) (mn mc : Nat) (ml : List Int) (w : World) (hI : Ints w la len l) (hJ : Ints w ma mn ml) (hlen : len ≤ 9223372036854775807) : Ret Try.prog 30 #[.slice la len cap, .slice ma mn mc] w (fun v w' => v = .bool (l == ml) ∧ Sep w [] w') := by
  have S0 := Sep.refl w
  refine Ret.named fun R hR => ?_
  refine Ret.of_J (N := 26) [(0, .slice la len cap), (1, .slice ma mn mc)] Try.func30 rfl rfl (Nat.le_of_ble_eq_true (by kernel_rfl)) (by kernel_rfl) ?_
  have hl2 := hI.len_eq
  have hm2 := hJ.len_eq
  refine J.run 13 K30_0 [(10, .bool ((len : Int) != (mn : Int))), (0, .slice la len cap), (1, .slice ma mn mc)] w (by kernel_rfl) ?_
  by_cases fk1 : (len : Int) = (mn : Int)
  · skip
    refine J.head (.bool false) (congrArg Value.bool (bne_eq_false_iff_eq.2 fk1)) ?_
    refine J.run 11 K30_1 [(13, .int .i64 0), (12, .int .i64 (len : Int)), (0, .slice la len cap), (1, .slice ma mn mc)] w (by kernel_rfl) ?_
    have L30_1 : ∀ (mm_ : Nat) (i : Int) (w1 : World), (0 ≤ i) → (i ≤ (len : Int)) → (∀ j, j < (i).toNat → l.getD j 0 = ml.getD j 0) → Sep w [] w1 → ((len : Int) - i).toNat = mm_ → J Try.prog 30 26 R K30_1 [(13, .int .i64 i), (12, .int .i64 (len : Int)), (0, .slice la len cap), (1, .slice ma mn mc)] w1 := by
      intro mm1
      induction mm1 using Nat.strongRecOn with
      | _ mm1 ih1 =>
      intro i w1 h0 h1 hq S1 hm1
      refine J.run 5 K30_2 [(14, .bool (decide (i < (len : Int)))), (13, .int .i64 i), (12, .int .i64 (len : Int)), (0, .slice la len cap), (1, .slice ma mn mc)] w1 (by kernel_rfl) ?_
      by_cases fk2 : i < (len : Int)
      · skip
        refine J.head (.bool true) (congrArg Value.bool (decide_eq_true fk2)) ?_
        refine J.run 10 K30_3 [(5, .int .i64 i), (13, .int .i64 i), (12, .int .i64 (len : Int)), (0, .slice la len cap), (1, .slice ma mn mc)] w1 (by kernel_rfl) ?_
        obtain ⟨p1, hp1, hc1⟩ := hI.at 0 (i).toNat (by omega)
        obtain ⟨p2, hp2, hc2⟩ := hJ.at 0 (i).toNat (by omega)
        refine J.drawStill S1 9 Try.mixed (by kernel_rfl) (by kernel_rfl) (by kernel_rfl) ?_
        intro w2 S2
        refine SL.ok (by decide) (OK.run 16 (.slice la len cap) (by kernel_rfl)) ?_
        refine SL.ok (by decide) (OK.run 17 (.int .i64 i) (by kernel_rfl)) ?_
        refine SL.ok (by decide) (OK.index 18 22 1 la p1 len (i).toNat i (p1.add (i).toNat) (by kernel_rfl) (by kernel_rfl) hp1 (by omega) (by omega) (by rw [Nat.mul_one])) ?_
        refine SL.ok (by decide) (OK.ldCell 19 3 (p1.add (i).toNat) (.int .i64 (l.getD (i).toNat 0)) (by kernel_rfl) (by kernel_rfl) (S2.cell hc1)) ?_
        refine SL.ok (by decide) (OK.run 20 (.slice ma mn mc) (by kernel_rfl)) ?_
        refine SL.ok (by decide) (OK.run 21 (.int .i64 i) (by kernel_rfl)) ?_
        refine SL.ok (by decide) (OK.index 22 22 1 ma p2 mn (i).toNat i (p2.add (i).toNat) (by kernel_rfl) (by kernel_rfl) hp2 (by omega) (by omega) (by rw [Nat.mul_one])) ?_
        refine SL.ok (by decide) (OK.ldCell 23 3 (p2.add (i).toNat) (.int .i64 (ml.getD (i).toNat 0)) (by kernel_rfl) (by kernel_rfl) (S2.cell hc2)) ?_
        refine SL.ok (by decide) (OK.run 24 (.bool ((l.getD (i).toNat 0) != (ml.getD (i).toNat 0))) (by kernel_rfl)) ?_
        refine SL.done ?_
        refine TL.done (by kernel_rfl) ?_
        refine J.run 0 (rRest K30_3) [(24, .bool ((l.getD (i).toNat 0) != (ml.getD (i).toNat 0))), (13, .int .i64 i), (12, .int .i64 (len : Int)), (0, .slice la len cap), (1, .slice ma mn mc)] w2 (by kernel_rfl) ?_
        by_cases fk3 : (l.getD (i).toNat 0) = (ml.getD (i).toNat 0)
        · skip
          refine J.head (.bool false) (congrArg Value.bool (bne_eq_false_iff_eq.2 fk3)) ?_
          refine J.run 5 K30_4 [(25, .int .i64 (IntKind.wrap .i64 (i + 1))), (12, .int .i64 (len : Int)), (0, .slice la len cap), (1, .slice ma mn mc)] w2 (by kernel_rfl) ?_
          refine J.head (.int .i64 (i + 1)) (congrArg (Value.int .i64) (IntWalk.i64_in _ (by omega))) ?_
          refine J.run 3 K30_1 [(13, .int .i64 (i + 1)), (12, .int .i64 (len : Int)), (0, .slice la len cap), (1, .slice ma mn mc)] w2 (by kernel_rfl) ?_
          refine J.run 0 K30_1 [(13, .int .i64 (i + 1)), (12, .int .i64 (len : Int)), (0, .slice la len cap), (1, .slice ma mn mc)] w2 (by kernel_rfl) ?_
          exact ih1 _ (show ((len : Int) - (i + 1)).toNat < mm1 from by omega) (i + 1) w2 (by omega) (by omega) (by intro j hj; by_cases e : j = i.toNat; (subst e; exact fk3); exact hq j (by omega)) S2 rfl
        · skip
          refine J.head (.bool true) (congrArg Value.bool (bne_iff_ne.2 fk3)) ?_
          refine J.run 5 K30_5 [(4, .bool false)] w2 (by kernel_rfl) ?_
          refine J.ret Try.f30 [.bool false] Try.func30 ⟨by kernel_rfl, trivial⟩ ?_
          refine hR _ _ ?_
          exact ⟨congrArg Value.bool (beq_at (i := i.toNat) fk3).symm, S2.nil⟩
      · skip
        refine J.head (.bool false) (congrArg Value.bool (decide_eq_false fk2)) ?_
        refine J.run 6 K30_6 [(4, .bool true)] w1 (by kernel_rfl) ?_
        refine J.ret Try.f30 [.bool true] Try.func30 ⟨by kernel_rfl, trivial⟩ ?_
        refine hR _ _ ?_
        exact ⟨congrArg Value.bool (beq_all (by omega) fun j hj => hq j (by omega)).symm, S1.nil⟩
    exact L30_1 _ 0 w (by omega) (by omega) (by intro j hj; simp at hj) S0 rfl
  · skip
    refine J.head (.bool true) (congrArg Value.bool (bne_iff_ne.2 fk1)) ?_
    refine J.run 5 K30_7 [(4, .bool false)] w (by kernel_rfl) ?_
    refine J.ret Try.f30 [.bool false] Try.func30 ⟨by kernel_rfl, trivial⟩ ?_
    refine hR _ _ ?_
    exact ⟨congrArg Value.bool (beq_no hl2 hm2 (by omega)).symm, S0.nil⟩

def colN (m : Mp) : List Int := if validM m then m.gY_l else []
def colV (m : Mp) (x : Int) : List Int := if validM m then m.gY_l.map fun y => valueF m x y else []
def rowN (m : Mp) : List Int := if validM m then m.gX_l else []
def rowV (m : Mp) (y : Int) : List Int := if validM m then m.gX_l.map fun x => valueF m x y else []
def errM (m : Mp) : Int := if validM m then 0 else 1
theorem map_take {l : List Int} {q : Int → Int} {i : Int} (h0 : 0 ≤ i) (h : i < (l.length : Int)) : (l.map q).take (i + 1).toNat = (l.map q).take i.toNat ++ [q (l.getD i.toNat 0)] := by
  rw [take_snoc h0 (by simpa using h)]
  simp [List.getD, show i.toNat < l.length by omega]
theorem getD_set_ne {l : List Int} {i j : Nat} {v : Int} (h : i ≠ j) : (l.set i v).getD j 0 = l.getD j 0 := by simp [List.getD, List.getElem?_set, h]
theorem getD_set_at {l : List Int} {i : Nat} {v : Int} (h : i < l.length) : (l.set i v).getD i 0 = v := by simp [List.getD, h]
theorem map_getD {l : List Int} {q : Int → Int} {j : Nat} (h : j < l.length) : (l.map q).getD j 0 = q (l.getD j 0) := by simp [List.getD, h]
theorem colN_yes {m : Mp} (h : validM m = true) : colN m = m.gY_l := by unfold colN; rw [h]; rfl
theorem colV_yes {m : Mp} (h : validM m = true) (x : Int) : colV m x = m.gY_l.map fun y => valueF m x y := by unfold colV; rw [h]; rfl
theorem rowN_yes {m : Mp} (h : validM m = true) : rowN m = m.gX_l := by unfold rowN; rw [h]; rfl
theorem rowV_yes {m : Mp} (h : validM m = true) (y : Int) : rowV m y = m.gX_l.map fun x => valueF m x y := by unfold rowV; rw [h]; rfl
theorem errM_yes {m : Mp} (h : validM m = true) : errM m = 0 := by unfold errM; rw [h]; rfl
theorem err_no {m : Mp} (h : validM m = false) : colN m = [] ∧ rowN m = [] ∧ errM m = 1 := by unfold colN rowN errM; rw [h]; exact ⟨rfl, rfl, rfl⟩
theorem errv_no {m : Mp} (h : validM m = false) (x : Int) : colV m x = [] ∧ rowV m x = [] := by unfold colV rowV; rw [h]; exact ⟨rfl, rfl⟩
theorem colF_map {m : Mp} (hY : m.gY_l.length = m.gY_n) (ay : axisB m.gY_l = true) (x : Int) : colF m x = m.gY_l.map fun y => valueF m x y := by
  refine list_ext_getD (by rw [colF_length, List.length_map, hY]) fun k hk => ?_
  rw [colF_length] at hk
  rw [map_getD (by omega)]
  unfold valueF
  rw [curve_node ay (by omega)]
def ptsT (l : List Int) (lo hi i : Int) : List Int := [lo, hi] ++ (l.take i.toNat).filter fun x => decide (lo < x) && decide (x < hi)
theorem ptsT_yes {l : List Int} {lo hi i : Int} (h0 : 0 ≤ i) (h : i < (l.length : Int)) (h1 : l.getD i.toNat 0 > lo) (h2 : l.getD i.toNat 0 < hi) : ptsT l lo hi (i + 1) = ptsT l lo hi i ++ [l.getD i.toNat 0] := by
  unfold ptsT; rw [take_snoc h0 h, List.filter_append, List.append_assoc]; congr 1
  rw [List.filter_cons, if_pos (by simp only [Bool.and_eq_true, decide_eq_true_eq]; omega)]; rfl
theorem ptsT_no {l : List Int} {lo hi i : Int} (h0 : 0 ≤ i) (h : i < (l.length : Int)) (h1 : ¬ l.getD i.toNat 0 > lo ∨ ¬ l.getD i.toNat 0 < hi) : ptsT l lo hi (i + 1) = ptsT l lo hi i := by
  unfold ptsT; rw [take_snoc h0 h, List.filter_append]
  rw [List.filter_cons, if_neg (by simp only [Bool.and_eq_true, decide_eq_true_eq]; omega)]; simp
theorem ptsT_end {l : List Int} {lo hi i : Int} (h : (l.length : Int) ≤ i) : ptsT l lo hi i = ptsF l lo hi := by unfold ptsT ptsF; rw [List.take_of_length_le (by omega)]
theorem ptsT_len (l : List Int) (lo hi i : Int) : (ptsT l lo hi i).length ≤ l.length + 2 := by
  unfold ptsT
  have := List.length_filter_le (fun x => decide (lo < x) && decide (x < hi)) (l.take i.toNat)
  simp only [List.length_append, List.length_cons, List.length_nil]
  rw [List.length_take] at this; omega
theorem pts_len (l : List Int) (lo hi : Int) : (ptsF l lo hi).length ≤ l.length + 2 := by rw [← ptsT_end (Int.le_refl _)]; exact ptsT_len _ _ _ _
theorem minF_take {d i : Int} {l : List Int} (h0 : 0 ≤ i) (h : i < (l.length : Int)) : minF d (l.take (i + 1).toNat) = min (minF d (l.take i.toNat)) (l.getD i.toNat 0) := by rw [take_snoc h0 h, minF_snoc]
theorem maxF_take {d i : Int} {l : List Int} (h0 : 0 ≤ i) (h : i < (l.length : Int)) : maxF d (l.take (i + 1).toNat) = max (maxF d (l.take i.toNat)) (l.getD i.toNat 0) := by rw [take_snoc h0 h, maxF_snoc]
theorem one_take {l : List Int} (h : 0 < l.length) : l.take 1 = [l.getD 0 0] := by
  cases l with
  | nil => simp at h
  | cons a l => simp
/-- the values so far, in two loops -/
def vals2 (m : Mp) (xs ys : List Int) (i j : Int) : List Int := valsF m (xs.take i.toNat) ys ++ (ys.take j.toNat).map fun y => valueF m (xs.getD i.toNat 0) y
theorem vals2_zero (m : Mp) (xs ys : List Int) (i : Int) : vals2 m xs ys i 0 = valsF m (xs.take i.toNat) ys := by simp [vals2]
theorem vals2_step {m : Mp} {xs ys : List Int} {i j : Int} (h0 : 0 ≤ j) (h : j < (ys.length : Int)) : vals2 m xs ys i (j + 1) = vals2 m xs ys i j ++ [valueF m (xs.getD i.toNat 0) (ys.getD j.toNat 0)] := by
  unfold vals2; rw [take_snoc h0 h, List.map_append, List.append_assoc]; rfl
theorem vals2_end {m : Mp} {xs ys : List Int} {i j : Int} (h0 : 0 ≤ i) (h : i < (xs.length : Int)) (hj : (ys.length : Int) ≤ j) : vals2 m xs ys i j = valsF m (xs.take (i + 1).toNat) ys := by
  unfold vals2; rw [take_snoc h0 h, valsF_snoc, List.take_of_length_le (l := ys) (by omega)]
theorem vals2_in {m : Mp} (hX : m.gX_l.length = m.gX_n) (hY : m.gY_l.length = m.gY_n) (v : Vm m) (xs ys : List Int) (i j : Int) : ∀ u ∈ vals2 m xs ys i j, -1073741824 ≤ u ∧ u ≤ 1073741824 := by
  intro u hu
  unfold vals2 at hu
  rcases List.mem_append.1 hu with hu | hu
  · exact vals_in hX hY v _ _ u hu
  · obtain ⟨y, _, rfl⟩ := List.mem_map.1 hu
    exact value_in hX hY v _ y
theorem minF_in {d : Int} {l : List Int} (hd : -1073741824 ≤ d ∧ d ≤ 1073741824) (hl : ∀ u ∈ l, -1073741824 ≤ u ∧ u ≤ 1073741824) : -1073741824 ≤ minF d l ∧ minF d l ≤ 1073741824 := by
  rcases (minF_spec d l).1 with h | h
  · rw [h]; exact hd
  · exact hl _ h
theorem maxF_in {d : Int} {l : List Int} (hd : -1073741824 ≤ d ∧ d ≤ 1073741824) (hl : ∀ u ∈ l, -1073741824 ≤ u ∧ u ≤ 1073741824) : -1073741824 ≤ maxF d l ∧ maxF d l ≤ 1073741824 := by
  rcases (maxF_spec d l).1 with h | h
  · rw [h]; exact hd
  · exact hl _ h
/-- the elements so far, in two loops -/
def all2 (m : Mp) (i j : Int) : List Int := (m.gZ_l.take i.toNat).flatMap Rw.gS_l ++ (m.gZ_l.getD i.toNat rw0).gS_l.take j.toNat
theorem all2_zero (m : Mp) (i : Int) : all2 m i 0 = (m.gZ_l.take i.toNat).flatMap Rw.gS_l := by simp [all2]
theorem all2_step {m : Mp} {i j : Int} (h0 : 0 ≤ j) (h : j < ((m.gZ_l.getD i.toNat rw0).gS_l.length : Int)) : all2 m i (j + 1) = all2 m i j ++ [(m.gZ_l.getD i.toNat rw0).gS_l.getD j.toNat 0] := by
  unfold all2; rw [take_snoc h0 h, List.append_assoc]
theorem takeR_snoc {l : List Rw} {i : Int} (h0 : 0 ≤ i) (h : i < (l.length : Int)) : l.take (i + 1).toNat = l.take i.toNat ++ [l.getD i.toNat rw0] := by
  rw [show (i + 1).toNat = i.toNat + 1 by omega, List.take_succ_eq_append_getElem (by omega)]
  simp [List.getD, show i.toNat < l.length by omega]
theorem flat_take {l : List Rw} {i : Int} (h0 : 0 ≤ i) (h : i < (l.length : Int)) : (l.take (i + 1).toNat).flatMap Rw.gS_l = (l.take i.toNat).flatMap Rw.gS_l ++ (l.getD i.toNat rw0).gS_l := by
  rw [takeR_snoc h0 h]; simp
theorem all2_end {m : Mp} {i j : Int} (h0 : 0 ≤ i) (h : i < (m.gZ_l.length : Int)) (hj : ((m.gZ_l.getD i.toNat rw0).gS_l.length : Int) ≤ j) : all2 m i j = (m.gZ_l.take (i + 1).toNat).flatMap Rw.gS_l := by
  unfold all2; rw [flat_take h0 h, List.take_of_length_le (l := (m.gZ_l.getD i.toNat rw0).gS_l) (by omega)]
theorem flat_len {l : List Rw} (i : Nat) : ((l.take i).flatMap Rw.gS_l).length ≤ (l.flatMap Rw.gS_l).length := by
  have : l.flatMap Rw.gS_l = (l.take i).flatMap Rw.gS_l ++ (l.drop i).flatMap Rw.gS_l := by rw [← List.flatMap_append, List.take_append_drop]
  rw [this, List.length_append]; omega
theorem flat_size {l : List Rw} {n : Nat} (h : ∀ j, j < l.length → (l.getD j rw0).gS_l.length = n) : (l.flatMap Rw.gS_l).length = l.length * n := by
  induction l with
  | nil => simp
  | cons x l ih =>
    rw [List.flatMap_cons, List.length_append, ih (fun j hj => by have := h (j + 1) (by simpa using hj); simpa using this), List.length_cons, Nat.add_mul]
    have := h 0 (by simp)
    simp at this
    omega
theorem all_first {m : Mp} (h : 0 < m.gZ_l.length) (h2 : 0 < (m.gZ_l.getD 0 rw0).gS_l.length) : (allZ m).getD 0 0 = zF m 0 0 := by
  unfold allZ zF
  cases hz : m.gZ_l with
  | nil => rw [hz] at h; simp at h
  | cons x l =>
    rw [hz] at h2
    simp only [List.getD_cons_zero] at h2 ⊢
    rw [List.flatMap_cons]
    cases hx : x.gS_l with
    | nil => rw [hx] at h2; simp at h2
    | cons a r => simp
def overE (m : Mp) (a b c d : Int) : Int := if validM m = true ∧ a ≤ b ∧ c ≤ d then 0 else 1
def overL (m : Mp) (a b c d : Int) : Int := if validM m = true ∧ a ≤ b ∧ c ≤ d then lowF m a b c d else 0
def overH (m : Mp) (a b c d : Int) : Int := if validM m = true ∧ a ≤ b ∧ c ≤ d then highF m a b c d else 0
theorem over_no {m : Mp} {a b c d : Int} (h : validM m = false ∨ a > b ∨ c > d) : overE m a b c d = 1 ∧ overL m a b c d = 0 ∧ overH m a b c d = 0 := by
  have : ¬ (validM m = true ∧ a ≤ b ∧ c ≤ d) := by
    rintro ⟨h1, h2, h3⟩
    rcases h with h | h | h
    · rw [h1] at h; cases h
    · omega
    · omega
  unfold overE overL overH; rw [if_neg this, if_neg this, if_neg this]; exact ⟨rfl, rfl, rfl⟩
theorem over_yes {m : Mp} {a b c d : Int} (h : validM m = true) (h1 : a ≤ b) (h2 : c ≤ d) : overE m a b c d = 0 ∧ overL m a b c d = lowF m a b c d ∧ overH m a b c d = highF m a b c d := by
  unfold overE overL overH; rw [if_pos ⟨h, h1, h2⟩, if_pos ⟨h, h1, h2⟩, if_pos ⟨h, h1, h2⟩]; exact ⟨rfl, rfl, rfl⟩
/-- the value by the rows' curve: it differs by at most one -/
theorem value_rows {m : Mp} (hX : m.gX_l.length = m.gX_n) (hY : m.gY_l.length = m.gY_n) (vm : Vm m) (x y : Int) : curveF m.gX_l (m.gX_l.map fun x => valueF m x y) x - valueF m x y ≤ 1 ∧ -1 ≤ curveF m.gX_l (m.gX_l.map fun x => valueF m x y) x - valueF m x y := by
  obtain ⟨i, x', a1, a2, a3, a4, a5⟩ := seg_exists x vm.ax
  obtain ⟨j, y', b1, b2, b3, b4, b5⟩ := seg_exists y vm.ay
  have mx := axis_mono vm.ax (show i < i + 1 by omega) a1
  have my := axis_mono vm.ay (show j < j + 1 by omega) b1
  have hcol : colF m x = colF m x' := List.map_congr_left fun k _ => by rw [curve_seg vm.ax a1 a2 a3 a4 a5, curve_cell _ vm.ax a1 a2 a3]
  have hv : valueF m x y = valueF m x' y := by unfold valueF; rw [hcol]
  obtain ⟨v1, v2⟩ := value_exact hX hY vm a1 a2 a3 b1 b2 b3 b4 b5
  rw [← hv] at v1 v2
  have node : ∀ k, k < m.gX_n → valueF m (m.gX_l.getD k 0) y = ((m.gY_l.getD (j + 1) 0 - y') * zF m k j + (y' - m.gY_l.getD j 0) * zF m k (j + 1)) / (m.gY_l.getD (j + 1) 0 - m.gY_l.getD j 0) := by
    intro k hk
    unfold valueF
    rw [curve_seg vm.ay b1 b2 b3 b4 b5, btw_form my, colF_getD m _ (by omega), colF_getD m _ (by omega), curve_node vm.ax (by omega), curve_node vm.ax (by omega), colZ_getD m hk, colZ_getD m hk]
  have e : curveF m.gX_l (m.gX_l.map fun x => valueF m x y) x = ((m.gX_l.getD (i + 1) 0 - x') * (((m.gY_l.getD (j + 1) 0 - y') * zF m i j + (y' - m.gY_l.getD j 0) * zF m i (j + 1)) / (m.gY_l.getD (j + 1) 0 - m.gY_l.getD j 0)) + (x' - m.gX_l.getD i 0) * (((m.gY_l.getD (j + 1) 0 - y') * zF m (i + 1) j + (y' - m.gY_l.getD j 0) * zF m (i + 1) (j + 1)) / (m.gY_l.getD (j + 1) 0 - m.gY_l.getD j 0))) / (m.gX_l.getD (i + 1) 0 - m.gX_l.getD i 0) := by
    rw [curve_seg vm.ax a1 a2 a3 a4 a5, btw_form mx, map_getD (by omega), map_getD (by omega), node i (by omega), node (i + 1) (by omega)]
  obtain ⟨w1, w2⟩ := two_floor (p := m.gX_l.getD (i + 1) 0 - x') (q := x' - m.gX_l.getD i 0) (A := (m.gY_l.getD (j + 1) 0 - y') * zF m i j + (y' - m.gY_l.getD j 0) * zF m i (j + 1)) (B := (m.gY_l.getD (j + 1) 0 - y') * zF m (i + 1) j + (y' - m.gY_l.getD j 0) * zF m (i + 1) (j + 1))
    (D := m.gY_l.getD (j + 1) 0 - m.gY_l.getD j 0) (H := m.gX_l.getD (i + 1) 0 - m.gX_l.getD i 0) (by omega) (by omega) (by omega) (by omega) (by omega)
  rw [← e] at w1 w2
  have hF : (m.gX_l.getD (i + 1) 0 - x') * ((m.gY_l.getD (j + 1) 0 - y') * zF m i j + (y' - m.gY_l.getD j 0) * zF m i (j + 1)) + (x' - m.gX_l.getD i 0) * ((m.gY_l.getD (j + 1) 0 - y') * zF m (i + 1) j + (y' - m.gY_l.getD j 0) * zF m (i + 1) (j + 1)) = exactF m i j x' y' := by unfold exactF; grind
  rw [hF, Int.mul_comm (m.gY_l.getD (j + 1) 0 - m.gY_l.getD j 0)] at w1 w2
  have hDH := Int.mul_pos (show 0 < m.gX_l.getD (i + 1) 0 - m.gX_l.getD i 0 by omega) (show 0 < m.gY_l.getD (j + 1) 0 - m.gY_l.getD j 0 by omega)
  generalize (m.gX_l.getD (i + 1) 0 - m.gX_l.getD i 0) * (m.gY_l.getD (j + 1) 0 - m.gY_l.getD j 0) = DH at *
  have le : ∀ {a b : Int}, DH * a < DH * b → a < b := fun h => Int.lt_of_mul_lt_mul_left h (by omega)
  have q1 := le (show DH * valueF m x y < DH * (curveF m.gX_l (m.gX_l.map fun x => valueF m x y) x + 2) by omega)
  have q2 := le (show DH * curveF m.gX_l (m.gX_l.map fun x => valueF m x y) x < DH * (valueF m x y + 2) by omega)
  omega

end Go.Proofs.Ytempepmfifljmaa
