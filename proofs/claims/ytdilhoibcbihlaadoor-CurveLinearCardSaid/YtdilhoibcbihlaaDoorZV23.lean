/- Walks of functions of this seat, printed by a program over the engine. Conditions: as each theorem says. -/
import Derived.Test.YtdilhoibcbihlaaDoorZV18
namespace Go.Proofs.YtdilhoibcbihlaaDoor
open Go.Eng Go.RowKit
set_option linter.unusedSimpArgs false
set_option linter.unusedVariables false
/-- a curve whose nodes lie on a line -/
structure Lin (c : Crv) (l : List Int) (s : Int) : Prop where
  hx : c.gX_l = l
  hy : c.gY_l = l.map fun k => s * k
  hn : c.gX_n = l.length
  hm : c.gY_n = l.length
  h2 : 2 ≤ l.length ∧ l.length ≤ 32
  hb : ∀ j, j < l.length → -1048576 ≤ l.getD j 0 ∧ l.getD j 0 ≤ 1048576
  up : ∀ j, j + 1 < l.length → l.getD j 0 < l.getD (j + 1) 0
  hs : -200 ≤ s ∧ s ≤ 200
theorem prod200 {s k : Int} (hs : -200 ≤ s ∧ s ≤ 200) (hk : -1048576 ≤ k ∧ k ≤ 1048576) : -209715200 ≤ s * k ∧ s * k ≤ 209715200 := by
  have h1 : (s * k).natAbs ≤ 200 * 1048576 := by rw [Int.natAbs_mul]; exact Nat.mul_le_mul (by omega) (by omega)
  omega
theorem map_getD {l : List Int} {f : Int → Int} {j : Nat} (h : j < l.length) : (l.map f).getD j 0 = f (l.getD j 0) := by simp [List.getD, h]
theorem Lin.axis {c : Crv} {l : List Int} {s : Int} (h : Lin c l s) : axisB l = true :=
  axis_adj h.h2.1 h.h2.2 ((all_getD 0).2 fun j hj => elB_iff.2 (by have := h.hb j hj; omega)) h.up
theorem Lin.valid {c : Crv} {l : List Int} {s : Int} (h : Lin c l s) : validV c = true :=
  validV_yes (by rw [h.hn, h.hm]) (by rw [h.hx]; exact h.axis) (by rw [h.hy]; refine (all_getD 0).2 fun j hj => ?_; rw [List.length_map] at hj; rw [map_getD hj]; exact elB_iff.2 (by have := prod200 h.hs (h.hb j hj); omega))
theorem Lin.seg {c : Crv} {l : List Int} {s : Int} (h : Lin c l s) {x : Int} (h1 : l.getD 0 0 ≤ x) (h2 : x < l.getD (l.length - 1) 0) : ∃ i : Nat, i + 1 < l.length ∧ l.getD i 0 ≤ x ∧ x < l.getD (i + 1) 0 := by
  obtain ⟨i, x', a1, a2, a3, a4, a5⟩ := seg_exists x h.axis
  have e : x' = x := by omega
  subst e
  refine ⟨i, a1, a2, ?_⟩
  rcases a4 with a4 | a4
  · exact a4
  · rw [show i + 1 = l.length - 1 by omega]; exact h2
theorem Lin.at {c : Crv} {l : List Int} {s : Int} (h : Lin c l s) {x : Int} (h1 : l.getD 0 0 ≤ x) (h2 : x < l.getD (l.length - 1) 0) : atV c x = s * x := by
  obtain ⟨i, a1, a2, a3⟩ := h.seg h1 h2
  rw [at_good h.valid]; unfold valueV
  rw [h.hx, curve_cell c.gY_l h.axis a1 a2 (Int.le_of_lt a3), h.hy, map_getD (by omega), map_getD a1]
  unfold btwF
  rw [show (x - l.getD i 0) * (s * l.getD (i + 1) 0 - s * l.getD i 0) = (x - l.getD i 0) * s * (l.getD (i + 1) 0 - l.getD i 0) by grind, Int.mul_ediv_cancel _ (by omega)]
  grind
theorem red_lin {s d : Int} (hs : -200 ≤ s ∧ s ≤ 200) (hd : 0 < d ∧ d ≤ 2097152) : redF (s * d) d = s ∧ redD (s * d) d = 1 := by
  have hg : gcdF (s * d) d = d := by
    have e : Nat.gcd (s * d).natAbs d.natAbs = d.natAbs := by rw [Int.natAbs_mul]; exact Nat.gcd_eq_right (Nat.dvd_mul_left _ _)
    unfold gcdF; rw [e, if_neg (by omega)]; omega
  unfold redF redD
  rw [hg, Int.mul_tdiv_cancel _ (by omega), Int.tdiv_self (by omega)]
  exact ⟨IntWalk.i64_in _ (by omega), IntWalk.i64_in _ (by omega)⟩
theorem Lin.slope {c : Crv} {l : List Int} {s : Int} (h : Lin c l s) {x : Int} (h1 : l.getD 0 0 ≤ x) (h2 : x < l.getD (l.length - 1) 0) : slopeN c x = s ∧ slopeD c x = 1 := by
  obtain ⟨i, a1, a2, a3⟩ := h.seg h1 h2
  have b1 := h.hb i (by omega)
  have b2 := h.hb (i + 1) a1
  obtain ⟨e1, e2⟩ := slope_seg (c := c) (x := x) (i := (i : Int)) h.valid ⟨by omega, by rw [h.hx]; omega⟩ (by rw [h.hx]; exact a2) (by rw [h.hx]; exact a3)
  rw [e1, e2, h.hx, h.hy, show ((i : Int) + 1).toNat = i + 1 by omega, show (i : Int).toNat = i by omega, map_getD a1, map_getD (show i < l.length by omega), ← Int.mul_sub]
  exact red_lin h.hs ⟨by omega, by omega⟩
theorem md_two {v : Int} (h : -209715200 ≤ v ∧ v ≤ 209715200) : mdX v 2 1 3 = 2 * v ∧ mdE v 2 1 3 = 0 :=
  md_fit (by omega) (by omega) (by unfold mulDivR rndQ; rw [if_neg (by omega), if_neg (by omega), if_neg (by omega)]; omega) (by omega)
theorem Lin.scale {c : Crv} {l : List Int} {s : Int} (h : Lin c l s) (hs : -100 ≤ s ∧ s ≤ 100) : scE c 2 1 = 0 ∧ scX c 2 1 = l ∧ scY c 2 1 = l.map fun k => 2 * s * k := by
  obtain ⟨e1, e2, e3⟩ := sc_yes (c := c) (n := 2) (d := 1) (i := (c.gY_l.length : Int)) h.valid (by omega) (Int.le_refl _) fun j hj => by
    rw [h.hy] at hj ⊢
    rw [List.length_map] at hj
    have hj' : j < l.length := by omega
    rw [map_getD hj']
    have h1 := h.hb j hj'
    have h2 : -104857600 ≤ s * l.getD j 0 ∧ s * l.getD j 0 ≤ 104857600 := by
      have h1 : (s * l.getD j 0).natAbs ≤ 100 * 1048576 := by rw [Int.natAbs_mul]; exact Nat.mul_le_mul (by omega) (by omega)
      omega
    obtain ⟨m1, m2⟩ := md_two (v := s * l.getD j 0) (by omega)
    exact okS_yes m2 (elB_iff.2 (by rw [m1]; omega))
  refine ⟨e1, by rw [e2, h.hx], ?_⟩
  rw [e3, h.hy, List.map_map]
  refine List.map_congr_left fun k hk => ?_
  obtain ⟨j, hj, rfl⟩ := mem_node hk
  have := prod200 h.hs (h.hb j hj)
  show mdX (s * l.getD j 0) 2 1 3 = 2 * s * l.getD j 0
  rw [(md_two this).1, Int.mul_assoc]
theorem Lin.sample {c : Crv} {l : List Int} {s : Int} (h : Lin c l s) : saE c l = 0 ∧ saX c l = l ∧ saY c l = l.map fun k => s * k := by
  obtain ⟨e1, e2, e3⟩ := sa_yes (c := c) (l := l) h.valid h.axis
  refine ⟨e1, e2, ?_⟩
  rw [e3]
  refine List.map_congr_left fun k hk => ?_
  obtain ⟨j, hj, rfl⟩ := mem_node hk
  show valueV c (l.getD j 0) = s * l.getD j 0
  have := node_at h.valid (j := j) (by rw [h.hx]; exact hj)
  rw [h.hx, h.hy, map_getD hj] at this; exact this
theorem Lin.twice {c d : Crv} {l : List Int} {s : Int} (h : Lin c l s) (hs : -100 ≤ s ∧ s ≤ 100) (h1 : d.gX_l = scX c 2 1) (h2 : d.gY_l = scY c 2 1) (h3 : d.gX_n = (scX c 2 1).length) (h4 : d.gY_n = (scY c 2 1).length) : Lin d l (2 * s) := by
  obtain ⟨_, e2, e3⟩ := h.scale hs
  exact ⟨by rw [h1, e2], by rw [h2, e3], by rw [h3, e2], by rw [h4, e3, List.length_map], h.h2, h.hb, h.up, by omega⟩
theorem Lin.scx {c : Crv} {l : List Int} {s : Int} (h : Lin c l s) (hs : -100 ≤ s ∧ s ≤ 100) : ∀ y ∈ scX c 2 1, -9223372036854775808 ≤ y ∧ y ≤ 9223372036854775807 := by
  intro y hy; rw [(h.scale hs).2.1] at hy
  obtain ⟨j, hj, rfl⟩ := mem_node hy
  have := h.hb j hj; omega
theorem Lin.scy {c : Crv} {l : List Int} {s : Int} (h : Lin c l s) (hs : -100 ≤ s ∧ s ≤ 100) : ∀ y ∈ scY c 2 1, -9223372036854775808 ≤ y ∧ y ≤ 9223372036854775807 := by
  intro y hy; rw [(h.scale hs).2.2] at hy
  obtain ⟨k, hk, rfl⟩ := List.mem_map.1 hy
  obtain ⟨j, hj, rfl⟩ := mem_node hk
  have := prod200 (s := 2 * s) (by omega) (h.hb j hj); omega
theorem take_step {l ys : List Int} {i : Int} (h0 : 0 ≤ i) (h : i < (l.length : Int)) (hy : ys = l.take i.toNat) : ys ++ [l.getD i.toNat 0] = l.take (i + 1).toNat := by
  have := cv_step (f := fun x => x) (ys := ys) h0 h (by simpa using hy)
  simpa using this
theorem lin_mk {c : Crv} {l lx ly : List Int} {s i : Int} (h1 : c.gX_l = lx) (h2 : c.gY_l = ly) (h3 : c.gX_n = lx.length) (h4 : c.gY_n = ly.length) (hi : (l.length : Int) ≤ i) (hlx : lx = l.take i.toNat) (hly : ly = (l.map fun k => s * k).take i.toNat) (hl : 2 ≤ l.length ∧ l.length ≤ 32)
    (hb : ∀ j, j < i.toNat → (-1048576 ≤ l.getD j 0 ∧ l.getD j 0 ≤ 1048576) ∧ (0 < j → l.getD (j - 1) 0 < l.getD j 0)) (hs : -100 ≤ s ∧ s ≤ 100) : Lin c l s := by
  have e1 : lx = l := by rw [hlx]; exact List.take_of_length_le (by omega)
  have e2 := cv_end hi hly
  refine ⟨by rw [h1, e1], by rw [h2, e2], by rw [h3, e1], by rw [h4, e2, List.length_map], hl, fun j hj => (hb j (by omega)).1, fun j hj => ?_, by omega⟩
  have := (hb (j + 1) (by omega)).2 (by omega)
  simpa using this

noncomputable def K9_0 : List Item := adv 7 [] (bodyOf Tryd.f9)
noncomputable def K9_1 : List Item := adv 11 [false] (popK K9_0)
noncomputable def K9_2 : List Item := adv 18 [true] K9_1
noncomputable def K9_3 : List Item := adv 5 [] K9_1
noncomputable def K9_4 : List Item := adv 13 [true] K9_3
noncomputable def K9_5 : List Item := adv 4 [] K9_3
noncomputable def K9_6 : List Item := adv 9 [true] K9_5
noncomputable def K9_7 : List Item := adv 4 [] K9_5
noncomputable def K9_8 : List Item := adv 5 [true] K9_7
noncomputable def K9_9 : List Item := adv 5 [false] K9_7
noncomputable def K9_10 : List Item := adv 10 [] (popK (popK K9_9))
noncomputable def K9_11 : List Item := adv 5 [] K9_10
noncomputable def K9_12 : List Item := adv 7 [true] K9_11
noncomputable def K9_13 : List Item := adv 9 [] (popK (popK K9_12))
noncomputable def K9_14 : List Item := adv 22 [true] K9_13
noncomputable def K9_15 : List Item := adv 4 [] K9_13
noncomputable def K9_16 : List Item := adv 18 [true] K9_15
noncomputable def K9_17 : List Item := adv 3 [] K9_15
noncomputable def K9_18 : List Item := adv 4 [] K9_17
noncomputable def K9_19 : List Item := adv 4 [] (popK (popK K9_18))
noncomputable def K9_20 : List Item := adv 5 [true] K9_19
noncomputable def K9_21 : List Item := adv 2 [false] K9_19
noncomputable def K9_22 : List Item := adv 3 [] (rRest K9_21)
noncomputable def K9_23 : List Item := adv 12 [false] K9_17
noncomputable def K9_24 : List Item := adv 3 [] (rRest K9_23)
noncomputable def K9_25 : List Item := adv 7 [false] K9_11
noncomputable def K9_26 : List Item := adv 2 [] (popK (popK K9_25))
noncomputable def K9_27 : List Item := adv 15 [true] K9_26
noncomputable def K9_28 : List Item := adv 5 [] K9_26
noncomputable def K9_29 : List Item := adv 3 [] (popK (popK K9_28))
noncomputable def K9_30 : List Item := adv 5 [true] K9_29
noncomputable def K9_31 : List Item := adv 4 [false] K9_29
noncomputable def K9_32 : List Item := adv 3 [] (popK (popK K9_31))
noncomputable def K9_33 : List Item := adv 4 [] (popK (popK K9_32))
noncomputable def K9_34 : List Item := adv 1 [] (popK K9_33)
noncomputable def K9_35 : List Item := adv 3 [] (popK K9_34)
noncomputable def K9_36 : List Item := adv 4 [] (popK (popK K9_35))
noncomputable def K9_37 : List Item := adv 1 [] (popK K9_36)
noncomputable def K9_38 : List Item := adv 11 [] (popK (popK K9_37))
noncomputable def K9_39 : List Item := adv 4 [] K9_38
noncomputable def K9_40 : List Item := adv 4 [] K9_39
noncomputable def K9_41 : List Item := adv 4 [] K9_40
noncomputable def K9_42 : List Item := adv 3 [] K9_41
noncomputable def K9_43 : List Item := adv 1 [] (popK K9_42)
noncomputable def K9_44 : List Item := adv 2 [] (popK K9_43)
noncomputable def K9_45 : List Item := adv 2 [] (popK K9_44)
noncomputable def K9_46 : List Item := adv 1 [] (popK K9_45)
noncomputable def K9_47 : List Item := adv 2 [] (popK K9_46)
noncomputable def K9_48 : List Item := adv 2 [] K9_47
noncomputable def K9_49 : List Item := adv 3 [] K9_48
noncomputable def K9_50 : List Item := adv 1 [] K9_49
noncomputable def K9_51 : List Item := adv 1 [] (popK K9_50)
noncomputable def K9_52 : List Item := adv 2 [] (popK (popK K9_51))
noncomputable def K9_53 : List Item := adv 1 [] K9_52
noncomputable def K9_54 : List Item := adv 1 [] (popK K9_53)
noncomputable def K9_55 : List Item := adv 3 [] (popK (popK K9_54))
set_option maxRecDepth 20000 in
set_option maxHeartbeats 20000000 in
theorem lawlinear_any (la : Option Addr) (len cap : Nat) (l : List Int) (slope x : Int) (w : World) (hW : TabW w) (hslope : (-9223372036854775808) ≤ slope ∧ slope ≤ 9223372036854775807) (hx : (-9223372036854775808) ≤ x ∧ x ≤ 9223372036854775807) (hI : Ints w la len l) (hlen : len ≤ 9223372036854775807) : Ret Tryd.prog 9 #[.slice la len cap, .int .i64 slope, .int .i64 x] w (fun v w' => v = .bool true ∧ Sep w [] w') := by
  have S0 := Sep.refl w
  refine Ret.named fun R hR => ?_
  refine Ret.of_J (N := 158) [(0, .slice la len cap), (1, .int .i64 slope), (2, .int .i64 x)] Tryd.func9 rfl rfl (Nat.le_of_ble_eq_true (by kernel_rfl)) (by kernel_rfl) ?_
  have hll := hI.len_eq
  refine J.run 7 K9_0 [(0, .slice la len cap), (1, .int .i64 slope), (2, .int .i64 x)] w (by kernel_rfl) ?_
  refine J.callF 16 10 #[] hb10 (by kernel_rfl) (awake_any  _ (tabW_sep hW S0)) ?_
  rintro _ w1 ⟨rfl, T1⟩
  have S1 : Sep w [] w1 := S0.trans T1
  clear T1
  refine J.run 11 K9_1 [(21, .bool (decide ((len : Int) < 2))), (0, .slice la len cap), (1, .int .i64 slope), (2, .int .i64 x)] w1 (by kernel_rfl) ?_
  by_cases fk1 : (len : Int) < 2
  · skip
    refine J.head (.bool true) (congrArg Value.bool (decide_eq_true fk1)) ?_
    refine J.run 18 K9_2 [(6, .bool true)] w1 (by kernel_rfl) ?_
    refine J.ret Tryd.f9 [.bool true] Tryd.func9 ⟨by kernel_rfl, trivial⟩ ?_
    refine hR _ _ ?_
    exact ⟨rfl, S1.nil⟩
  · skip
    refine J.head (.bool false) (congrArg Value.bool (decide_eq_false fk1)) ?_
    refine J.run 5 K9_3 [(26, .bool (decide ((len : Int) > 32))), (0, .slice la len cap), (1, .int .i64 slope), (2, .int .i64 x)] w1 (by kernel_rfl) ?_
    by_cases fk2 : (len : Int) > 32
    · skip
      refine J.head (.bool true) (congrArg Value.bool (decide_eq_true fk2)) ?_
      refine J.run 13 K9_4 [(6, .bool true)] w1 (by kernel_rfl) ?_
      refine J.ret Tryd.f9 [.bool true] Tryd.func9 ⟨by kernel_rfl, trivial⟩ ?_
      refine hR _ _ ?_
      exact ⟨rfl, S1.nil⟩
    · skip
      refine J.head (.bool false) (congrArg Value.bool (decide_eq_false fk2)) ?_
      refine J.run 4 K9_5 [(30, .bool (decide (slope < (-100)))), (0, .slice la len cap), (1, .int .i64 slope), (2, .int .i64 x)] w1 (by kernel_rfl) ?_
      by_cases fk3 : slope < (-100)
      · skip
        refine J.head (.bool true) (congrArg Value.bool (decide_eq_true fk3)) ?_
        refine J.run 9 K9_6 [(6, .bool true)] w1 (by kernel_rfl) ?_
        refine J.ret Tryd.f9 [.bool true] Tryd.func9 ⟨by kernel_rfl, trivial⟩ ?_
        refine hR _ _ ?_
        exact ⟨rfl, S1.nil⟩
      · skip
        refine J.head (.bool false) (congrArg Value.bool (decide_eq_false fk3)) ?_
        refine J.run 4 K9_7 [(33, .bool (decide (slope > 100))), (0, .slice la len cap), (1, .int .i64 slope), (2, .int .i64 x)] w1 (by kernel_rfl) ?_
        by_cases fk4 : slope > 100
        · skip
          refine J.head (.bool true) (congrArg Value.bool (decide_eq_true fk4)) ?_
          refine J.run 5 K9_8 [(6, .bool true)] w1 (by kernel_rfl) ?_
          refine J.ret Tryd.f9 [.bool true] Tryd.func9 ⟨by kernel_rfl, trivial⟩ ?_
          refine hR _ _ ?_
          exact ⟨rfl, S1.nil⟩
        · skip
          refine J.head (.bool false) (congrArg Value.bool (decide_eq_false fk4)) ?_
          refine J.run 5 K9_9 [(34, .agg #[.slice none 0 0, .slice none 0 0]), (0, .slice la len cap), (1, .int .i64 slope), (2, .int .i64 x)] w1 (by kernel_rfl) ?_
          refine J.new S1 7 [.slice none 0 0, .slice none 0 0] 24 (by kernel_rfl) ?_
          intro b1 w2 S2
          refine J.stBox S2 0 24 0 (.agg #[.slice none 0 0, .slice none 0 0]) [.slice none 0 0, .slice none 0 0] [box b1 [.slice none 0 0, .slice none 0 0] 24] (by kernel_rfl) rfl (by kernel_rfl) (by kernel_rfl) rfl ?_
          intro w3 S3
          refine J.run 10 K9_10 [(37, .int .i64 0), (36, .int .i64 (len : Int)), (35, .slice la len cap), (7, .pointer (some ⟨b1, 0, none⟩)), (0, .slice la len cap), (1, .int .i64 slope), (2, .int .i64 x)] w3 (by kernel_rfl) ?_
          have S4 : Sep w [rowOf encI none 0 3 1 ([]), box b1 [.slice none 0 0, .slice none 0 0] 24] w3 := S3.nilRow 3 1
          have S5 : Sep w [rowOf encI none 0 3 1 ([]), rowOf encI none 0 3 1 ([]), box b1 [.slice none 0 0, .slice none 0 0] 24] w3 := S4.nilRow 3 1
          have L9_1 : ∀ (mm_ : Nat) (ra : Option Addr) (rc : Nat) (lx : List Int) (rb : Option Addr) (rd : Nat) (ly : List Int) (i : Int) (w4 : World), (0 ≤ i) → (i ≤ (len : Int)) → (lx = l.take (i).toNat) → (ly = (l.map fun k => slope * k).take (i).toNat) → (∀ j, j < (i).toNat → (-1048576 ≤ l.getD j 0 ∧ l.getD j 0 ≤ 1048576) ∧ (0 < j → l.getD (j - 1) 0 < l.getD j 0)) → (∀ y ∈ lx, -1048576 ≤ y ∧ y ≤ 1048576) → (∀ y ∈ ly, -209715200 ≤ y ∧ y ≤ 209715200) → Sep w [rowOf encI ra rc 3 1 lx, rowOf encI rb rd 3 1 ly, box b1 [.slice ra lx.length rc, .slice rb ly.length rd] 24] w4 → ((len : Int) - i).toNat = mm_ → J Tryd.prog 9 158 R K9_10 [(37, .int .i64 i), (36, .int .i64 (len : Int)), (35, .slice la len cap), (7, .pointer (some ⟨b1, 0, none⟩)), (0, .slice la len cap), (1, .int .i64 slope), (2, .int .i64 x)] w4 := by
            intro mm1
            induction mm1 using Nat.strongRecOn with
            | _ mm1 ih1 =>
            intro ra rc lx rb rd ly i w4 h0 h1 hlx hly hq hqx hqy S6 hm1
            have hlxl := cv_len (l := l) (ys := lx) (f := fun k => k) h0 (by omega) (by simpa using hlx)
            have hlyl := cv_len h0 (by omega) hly
            refine J.run 5 K9_11 [(38, .bool (decide (i < (len : Int)))), (37, .int .i64 i), (36, .int .i64 (len : Int)), (35, .slice la len cap), (7, .pointer (some ⟨b1, 0, none⟩)), (0, .slice la len cap), (1, .int .i64 slope), (2, .int .i64 x)] w4 (by kernel_rfl) ?_
            by_cases fk5 : i < (len : Int)
            · skip
              refine J.head (.bool true) (congrArg Value.bool (decide_eq_true fk5)) ?_
              refine J.run 7 K9_12 [(39, .int .i64 i), (37, .int .i64 i), (36, .int .i64 (len : Int)), (35, .slice la len cap), (7, .pointer (some ⟨b1, 0, none⟩)), (0, .slice la len cap), (1, .int .i64 slope), (2, .int .i64 x)] w4 (by kernel_rfl) ?_
              obtain ⟨p1, hp1, hc1⟩ := hI.at 0 (i).toNat (by omega)
              refine J.ok (OK.index 40 22 1 la p1 len (i).toNat i (p1.add (i).toNat) (by kernel_rfl) (by kernel_rfl) hp1 (by omega) (by omega) (by rw [Nat.mul_one])) ?_
              refine J.ok (OK.ldCell 41 3 (p1.add (i).toNat) (.int .i64 (l.getD (i).toNat 0)) (by kernel_rfl) (by kernel_rfl) (S6.cell hc1)) ?_
              refine J.run 9 K9_13 [(44, .bool (decide ((l.getD (i).toNat 0) < (-1048576)))), (9, .int .i64 (l.getD (i).toNat 0)), (8, .int .i64 i), (37, .int .i64 i), (36, .int .i64 (len : Int)), (35, .slice la len cap), (7, .pointer (some ⟨b1, 0, none⟩)), (0, .slice la len cap), (1, .int .i64 slope), (2, .int .i64 x)] w4 (by kernel_rfl) ?_
              by_cases fk6 : (l.getD (i).toNat 0) < (-1048576)
              · skip
                refine J.head (.bool true) (congrArg Value.bool (decide_eq_true fk6)) ?_
                refine J.run 22 K9_14 [(6, .bool true)] w4 (by kernel_rfl) ?_
                refine J.ret Tryd.f9 [.bool true] Tryd.func9 ⟨by kernel_rfl, trivial⟩ ?_
                refine hR _ _ ?_
                exact ⟨rfl, S6.nil⟩
              · skip
                refine J.head (.bool false) (congrArg Value.bool (decide_eq_false fk6)) ?_
                refine J.run 4 K9_15 [(48, .bool (decide ((l.getD (i).toNat 0) > 1048576))), (9, .int .i64 (l.getD (i).toNat 0)), (8, .int .i64 i), (37, .int .i64 i), (36, .int .i64 (len : Int)), (35, .slice la len cap), (7, .pointer (some ⟨b1, 0, none⟩)), (0, .slice la len cap), (1, .int .i64 slope), (2, .int .i64 x)] w4 (by kernel_rfl) ?_
                by_cases fk7 : (l.getD (i).toNat 0) > 1048576
                · skip
                  refine J.head (.bool true) (congrArg Value.bool (decide_eq_true fk7)) ?_
                  refine J.run 18 K9_16 [(6, .bool true)] w4 (by kernel_rfl) ?_
                  refine J.ret Tryd.f9 [.bool true] Tryd.func9 ⟨by kernel_rfl, trivial⟩ ?_
                  refine hR _ _ ?_
                  exact ⟨rfl, S6.nil⟩
                · skip
                  refine J.head (.bool false) (congrArg Value.bool (decide_eq_false fk7)) ?_
                  refine J.run 3 K9_17 [(51, .bool (decide (i > 0))), (48, .bool false), (9, .int .i64 (l.getD (i).toNat 0)), (8, .int .i64 i), (37, .int .i64 i), (36, .int .i64 (len : Int)), (35, .slice la len cap), (7, .pointer (some ⟨b1, 0, none⟩)), (0, .slice la len cap), (1, .int .i64 slope), (2, .int .i64 x)] w4 (by kernel_rfl) ?_
                  by_cases fk8 : i > 0
                  · skip
                    refine J.head (.bool true) (congrArg Value.bool (decide_eq_true fk8)) ?_
                    refine J.run 4 K9_18 [(55, .int .i64 (IntKind.wrap .i64 (i - 1))), (53, .slice la len cap), (52, .int .i64 (l.getD (i).toNat 0)), (51, .bool true), (48, .bool false), (9, .int .i64 (l.getD (i).toNat 0)), (37, .int .i64 i), (36, .int .i64 (len : Int)), (35, .slice la len cap), (7, .pointer (some ⟨b1, 0, none⟩)), (0, .slice la len cap), (1, .int .i64 slope), (2, .int .i64 x)] w4 (by kernel_rfl) ?_
                    refine J.head (.int .i64 (i - 1)) (congrArg (Value.int .i64) (IntWalk.i64_in _ (by omega))) ?_
                    obtain ⟨p2, hp2, hc2⟩ := hI.at 0 (i - 1).toNat (by omega)
                    refine J.ok (OK.index 56 22 1 la p2 len (i - 1).toNat (i - 1) (p2.add (i - 1).toNat) (by kernel_rfl) (by kernel_rfl) hp2 (by omega) (by omega) (by rw [Nat.mul_one])) ?_
                    refine J.ok (OK.ldCell 57 3 (p2.add (i - 1).toNat) (.int .i64 (l.getD (i - 1).toNat 0)) (by kernel_rfl) (by kernel_rfl) (S6.cell hc2)) ?_
                    refine J.run 4 K9_19 [(60, .bool (decide ((l.getD (i).toNat 0) ≤ (l.getD (i - 1).toNat 0)))), (9, .int .i64 (l.getD (i).toNat 0)), (37, .int .i64 i), (36, .int .i64 (len : Int)), (35, .slice la len cap), (7, .pointer (some ⟨b1, 0, none⟩)), (0, .slice la len cap), (1, .int .i64 slope), (2, .int .i64 x)] w4 (by kernel_rfl) ?_
                    by_cases fk9 : (l.getD (i).toNat 0) ≤ (l.getD (i - 1).toNat 0)
                    · skip
                      refine J.head (.bool true) (congrArg Value.bool (decide_eq_true fk9)) ?_
                      refine J.run 5 K9_20 [(6, .bool true)] w4 (by kernel_rfl) ?_
                      refine J.ret Tryd.f9 [.bool true] Tryd.func9 ⟨by kernel_rfl, trivial⟩ ?_
                      refine hR _ _ ?_
                      exact ⟨rfl, S6.nil⟩
                    · skip
                      refine J.head (.bool false) (congrArg Value.bool (decide_eq_false fk9)) ?_
                      refine J.run 2 K9_21 [(9, .int .i64 (l.getD (i).toNat 0)), (37, .int .i64 i), (36, .int .i64 (len : Int)), (35, .slice la len cap), (7, .pointer (some ⟨b1, 0, none⟩)), (0, .slice la len cap), (1, .int .i64 slope), (2, .int .i64 x)] w4 (by kernel_rfl) ?_
                      have W1 : ∀ (ad11 : Option Addr) (cd11 : Nat) (ad4 : Option Addr) (cd4 : Nat) (w5 : World), Sep w [rowOf encI ad4 cd4 3 1 (lx ++ [l.getD (i).toNat 0]), rowOf encI ad11 cd11 3 1 (ly ++ [slope * (l.getD (i).toNat 0)]), box b1 [.slice ad4 ((lx ++ [l.getD (i).toNat 0]).length) cd4, .slice ad11 ((ly ++ [slope * (l.getD (i).toNat 0)]).length) cd11] 24] w5 → WA Tryd.prog 9 158 R K9_21 (fun w_ => Sep w [] w_) 0 #[true, true, true, true, true, true, true, true, true, true, true, true, true, true, true, true] [(0, .slice la len cap), (1, .int .i64 slope), (2, .int .i64 x), (7, .pointer (some ⟨b1, 0, none⟩)), (35, .slice la len cap), (36, .int .i64 (len : Int)), (37, .int .i64 i)] w5 := by
                        intro ad11 cd11 ad4 cd4 w5 S7
                        refine WA.done (by kernel_rfl) ?_
                        refine J.run 0 (rRest K9_21) [(0, .slice la len cap), (1, .int .i64 slope), (2, .int .i64 x), (7, .pointer (some ⟨b1, 0, none⟩)), (35, .slice la len cap), (36, .int .i64 (len : Int)), (37, .int .i64 i)] w5 (by kernel_rfl) ?_
                        refine J.run 3 K9_22 [(75, .int .i64 (IntKind.wrap .i64 (i + 1))), (0, .slice la len cap), (1, .int .i64 slope), (2, .int .i64 x), (7, .pointer (some ⟨b1, 0, none⟩)), (35, .slice la len cap), (36, .int .i64 (len : Int))] w5 (by kernel_rfl) ?_
                        refine J.head (.int .i64 (i + 1)) (congrArg (Value.int .i64) (IntWalk.i64_in _ (by omega))) ?_
                        refine J.run 3 K9_10 [(37, .int .i64 (i + 1)), (0, .slice la len cap), (1, .int .i64 slope), (2, .int .i64 x), (7, .pointer (some ⟨b1, 0, none⟩)), (35, .slice la len cap), (36, .int .i64 (len : Int))] w5 (by kernel_rfl) ?_
                        refine J.run 0 K9_10 [(37, .int .i64 (i + 1)), (36, .int .i64 (len : Int)), (35, .slice la len cap), (7, .pointer (some ⟨b1, 0, none⟩)), (0, .slice la len cap), (1, .int .i64 slope), (2, .int .i64 x)] w5 (by kernel_rfl) ?_
                        exact ih1 _ (show ((len : Int) - (i + 1)).toNat < mm1 from by omega) ad4 cd4 (lx ++ [l.getD (i).toNat 0]) ad11 cd11 (ly ++ [slope * (l.getD (i).toNat 0)]) (i + 1) w5 (by omega) (by omega) (take_step h0 (by omega) hlx) (cv_step (f := fun k => slope * k) h0 (by omega) hly) (all_step (q := fun j => (-1048576 ≤ l.getD j 0 ∧ l.getD j 0 ≤ 1048576) ∧ (0 < j → l.getD (j - 1) 0 < l.getD j 0)) h0 hq ⟨by omega, fun hj_ => by rw [show i.toNat - 1 = (i - 1).toNat by omega]; omega⟩) (fun y hy => by rcases List.mem_append.1 hy with hy | hy; exact hqx y hy; (simp only [List.mem_singleton] at hy; subst hy; omega)) (fun y hy => by rcases List.mem_append.1 hy with hy | hy; exact hqy y hy; (simp only [List.mem_singleton] at hy; subst hy; exact prod200 (by omega) (by omega))) S7 rfl
                      have W2 : ∀ (ad11 : Option Addr) (cd11 : Nat) (ad4 : Option Addr) (cd4 : Nat) (w6 : World), Sep w [rowOf encI ad4 cd4 3 1 (lx ++ [l.getD (i).toNat 0]), rowOf encI ad11 cd11 3 1 (ly ++ [slope * (l.getD (i).toNat 0)]), box b1 [.slice ad4 ((lx ++ [l.getD (i).toNat 0]).length) cd4, .slice rb ly.length rd] 24] w6 → WA Tryd.prog 9 158 R K9_21 (fun w_ => Sep w [] w_) 1 #[true, true, true, true, true, true, true, true, true, true, true, true, true, true, true, false] [(0, .slice la len cap), (1, .int .i64 slope), (2, .int .i64 x), (7, .pointer (some ⟨b1, 0, none⟩)), (35, .slice la len cap), (36, .int .i64 (len : Int)), (37, .int .i64 i), (72, .slice ad11 ((ly ++ [slope * (l.getD (i).toNat 0)]).length) cd11), (74, .pointer (some ⟨b1, 1, none⟩))] w6 := by
                        intro ad11 cd11 ad4 cd4 w6 S8
                        refine WA.all [15] (by kernel_rfl) rfl ⟨?_, trivial⟩
                        · skip
                          refine WO.set #[true, true, true, true, true, true, true, true, true, true, true, true, true, true, true, true] (by kernel_rfl) ?_
                          refine WO.stBox S8 2 22 1 (.slice ad11 ((ly ++ [slope * (l.getD (i).toNat 0)]).length) cd11) [.slice ad4 ((lx ++ [l.getD (i).toNat 0]).length) cd4, .slice ad11 ((ly ++ [slope * (l.getD (i).toNat 0)]).length) cd11] [rowOf encI ad4 cd4 3 1 (lx ++ [l.getD (i).toNat 0]), rowOf encI ad11 cd11 3 1 (ly ++ [slope * (l.getD (i).toNat 0)]), box b1 [.slice ad4 ((lx ++ [l.getD (i).toNat 0]).length) cd4, .slice ad11 ((ly ++ [slope * (l.getD (i).toNat 0)]).length) cd11] 24] (by kernel_rfl) rfl (by kernel_rfl) (by kernel_rfl) rfl ?_
                          intro w7 S9
                          refine WB.mk (S9.sub (.cons _ (.cons _ (.cons _ (.slnil))))) ?_
                          refine WA.weaken (env' := [(0, .slice la len cap), (1, .int .i64 slope), (2, .int .i64 x), (7, .pointer (some ⟨b1, 0, none⟩)), (35, .slice la len cap), (36, .int .i64 (len : Int)), (37, .int .i64 i)]) (by kernel_rfl) ?_
                          exact W1 ad11 cd11 ad4 cd4 w7 S9
                      have W3 : ∀ (ad11 : Option Addr) (cd11 : Nat) (ad4 : Option Addr) (cd4 : Nat) (w8 : World), Sep w [rowOf encI ad4 cd4 3 1 (lx ++ [l.getD (i).toNat 0]), rowOf encI ad11 cd11 3 1 (ly ++ [slope * (l.getD (i).toNat 0)]), box b1 [.slice ra lx.length rc, .slice rb ly.length rd] 24] w8 → WA Tryd.prog 9 158 R K9_21 (fun w_ => Sep w [] w_) 3 #[true, true, true, true, true, true, true, true, true, true, true, true, true, false, false, false] [(0, .slice la len cap), (1, .int .i64 slope), (2, .int .i64 x), (7, .pointer (some ⟨b1, 0, none⟩)), (35, .slice la len cap), (36, .int .i64 (len : Int)), (37, .int .i64 i), (65, .slice ad4 ((lx ++ [l.getD (i).toNat 0]).length) cd4), (72, .slice ad11 ((ly ++ [slope * (l.getD (i).toNat 0)]).length) cd11), (73, .pointer (some ⟨b1, 0, none⟩))] w8 := by
                        intro ad11 cd11 ad4 cd4 w8 S10
                        refine WA.all [13] (by kernel_rfl) rfl ⟨?_, trivial⟩
                        · skip
                          refine WO.set #[true, true, true, true, true, true, true, true, true, true, true, true, true, true, false, false] (by kernel_rfl) ?_
                          refine WO.stBox S10 2 22 0 (.slice ad4 ((lx ++ [l.getD (i).toNat 0]).length) cd4) [.slice ad4 ((lx ++ [l.getD (i).toNat 0]).length) cd4, .slice rb ly.length rd] [rowOf encI ad4 cd4 3 1 (lx ++ [l.getD (i).toNat 0]), rowOf encI ad11 cd11 3 1 (ly ++ [slope * (l.getD (i).toNat 0)]), box b1 [.slice ad4 ((lx ++ [l.getD (i).toNat 0]).length) cd4, .slice rb ly.length rd] 24] (by kernel_rfl) rfl (by kernel_rfl) (by kernel_rfl) rfl ?_
                          intro w9 S11
                          refine WB.mk (S11.sub (.cons _ (.cons _ (.cons _ (.slnil))))) ?_
                          refine WA.take 14 74 (.pointer (some ⟨b1, 1, none⟩)) #[true, true, true, true, true, true, true, true, true, true, true, true, true, true, true, false] (by kernel_rfl) (by kernel_rfl) (by kernel_rfl) (fun _ _ => by kernel_rfl) (by kernel_rfl) ?_
                          refine WA.weaken (env' := [(0, .slice la len cap), (1, .int .i64 slope), (2, .int .i64 x), (7, .pointer (some ⟨b1, 0, none⟩)), (35, .slice la len cap), (36, .int .i64 (len : Int)), (37, .int .i64 i), (72, .slice ad11 ((ly ++ [slope * (l.getD (i).toNat 0)]).length) cd11), (74, .pointer (some ⟨b1, 1, none⟩))]) (by kernel_rfl) ?_
                          exact W2 ad11 cd11 ad4 cd4 w9 S11
                      have W4 : ∀ (ad4 : Option Addr) (cd4 : Nat) (bd10 : Nat) (w10 : World), Sep w [box bd10 [.int .i64 (slope * (l.getD (i).toNat 0))] 3, rowOf encI ad4 cd4 3 1 (lx ++ [l.getD (i).toNat 0]), rowOf encI rb rd 3 1 ly, box b1 [.slice ra lx.length rc, .slice rb ly.length rd] 24] w10 → WA Tryd.prog 9 158 R K9_21 (fun w_ => Sep w [] w_) 4 #[true, true, true, true, true, true, true, true, true, true, true, false, true, false, false, false] [(0, .slice la len cap), (1, .int .i64 slope), (2, .int .i64 x), (7, .pointer (some ⟨b1, 0, none⟩)), (35, .slice la len cap), (36, .int .i64 (len : Int)), (37, .int .i64 i), (65, .slice ad4 ((lx ++ [l.getD (i).toNat 0]).length) cd4), (67, .slice rb ly.length rd), (71, .slice (some ⟨bd10, 0, none⟩) 1 1), (73, .pointer (some ⟨b1, 0, none⟩))] w10 := by
                        intro ad4 cd4 bd10 w10 S12
                        refine WA.all [11] (by kernel_rfl) rfl ⟨?_, trivial⟩
                        · skip
                          refine WO.set #[true, true, true, true, true, true, true, true, true, true, true, true, true, false, false, false] (by kernel_rfl) ?_
                          refine WO.append encI S12 2 ly (slope * (l.getD (i).toNat 0)) 72 22 (.int .i64 0) 8 ⟨bd10, 0, none⟩ 1 rfl (by kernel_rfl) (by kernel_rfl) (by kernel_rfl) (by kernel_rfl) (by decide) (box_cells (S12.nth 0 rfl)) (by kernel_rfl) (by kernel_rfl) (⟨by omega, by omega⟩) ?_
                          intro ad11 cd11 w11 S13
                          replace S13 : Sep w [box bd10 [.int .i64 (slope * (l.getD (i).toNat 0))] 3, rowOf encI ad4 cd4 3 1 (lx ++ [l.getD (i).toNat 0]), rowOf encI ad11 cd11 3 1 (ly ++ [slope * (l.getD (i).toNat 0)]), box b1 [.slice ra lx.length rc, .slice rb ly.length rd] 24] w11 := S13
                          have S14 : Sep w [rowOf encI ad4 cd4 3 1 (lx ++ [l.getD (i).toNat 0]), rowOf encI ad11 cd11 3 1 (ly ++ [slope * (l.getD (i).toNat 0)]), box b1 [.slice ra lx.length rc, .slice rb ly.length rd] 24] w11 := S13.erase 0
                          clear S13
                          refine WB.mk (S14.sub (.cons _ (.cons _ (.cons _ (.slnil))))) ?_
                          refine WA.weaken (env' := [(0, .slice la len cap), (1, .int .i64 slope), (2, .int .i64 x), (7, .pointer (some ⟨b1, 0, none⟩)), (35, .slice la len cap), (36, .int .i64 (len : Int)), (37, .int .i64 i), (65, .slice ad4 ((lx ++ [l.getD (i).toNat 0]).length) cd4), (72, .slice ad11 ((ly ++ [slope * (l.getD (i).toNat 0)]).length) cd11), (73, .pointer (some ⟨b1, 0, none⟩))]) (by kernel_rfl) ?_
                          exact W3 ad11 cd11 ad4 cd4 w11 S14
                      have W5 : ∀ (ad4 : Option Addr) (cd4 : Nat) (w12 : World), Sep w [rowOf encI ad4 cd4 3 1 (lx ++ [l.getD (i).toNat 0]), rowOf encI rb rd 3 1 ly, box b1 [.slice ra lx.length rc, .slice rb ly.length rd] 24] w12 → WA Tryd.prog 9 158 R K9_21 (fun w_ => Sep w [] w_) 5 #[true, true, true, true, true, true, true, true, true, true, false, false, true, false, false, false] [(0, .slice la len cap), (1, .int .i64 slope), (2, .int .i64 x), (7, .pointer (some ⟨b1, 0, none⟩)), (35, .slice la len cap), (36, .int .i64 (len : Int)), (37, .int .i64 i), (65, .slice ad4 ((lx ++ [l.getD (i).toNat 0]).length) cd4), (67, .slice rb ly.length rd), (70, .int .i64 (slope * (l.getD (i).toNat 0))), (73, .pointer (some ⟨b1, 0, none⟩))] w12 := by
                        intro ad4 cd4 w12 S15
                        refine WA.all [10] (by kernel_rfl) rfl ⟨?_, trivial⟩
                        · skip
                          refine WO.set #[true, true, true, true, true, true, true, true, true, true, true, false, true, false, false, false] (by kernel_rfl) ?_
                          refine WO.newSlice S15 71 1 [.int .i64 (slope * (l.getD (i).toNat 0))] 3 (by kernel_rfl) ?_
                          intro bd10 w13 S16
                          refine WB.mk (S16.sub (.cons _ (.cons _ (.cons _ (.cons _ (.slnil)))))) ?_
                          refine WA.weaken (env' := [(0, .slice la len cap), (1, .int .i64 slope), (2, .int .i64 x), (7, .pointer (some ⟨b1, 0, none⟩)), (35, .slice la len cap), (36, .int .i64 (len : Int)), (37, .int .i64 i), (65, .slice ad4 ((lx ++ [l.getD (i).toNat 0]).length) cd4), (67, .slice rb ly.length rd), (71, .slice (some ⟨bd10, 0, none⟩) 1 1), (73, .pointer (some ⟨b1, 0, none⟩))]) (by kernel_rfl) ?_
                          exact W4 ad4 cd4 bd10 w13 S16
                      have W6 : ∀ (bd10 : Nat) (bd3 : Nat) (w14 : World), Sep w [box bd3 [.int .i64 (l.getD (i).toNat 0)] 3, box bd10 [.int .i64 (slope * (l.getD (i).toNat 0))] 3, rowOf encI ra rc 3 1 lx, rowOf encI rb rd 3 1 ly, box b1 [.slice ra lx.length rc, .slice rb ly.length rd] 24] w14 → WA Tryd.prog 9 158 R K9_21 (fun w_ => Sep w [] w_) 6 #[true, true, true, true, false, true, true, true, true, true, true, false, false, false, false, false] [(0, .slice la len cap), (1, .int .i64 slope), (2, .int .i64 x), (7, .pointer (some ⟨b1, 0, none⟩)), (35, .slice la len cap), (36, .int .i64 (len : Int)), (37, .int .i64 i), (62, .slice ra lx.length rc), (64, .slice (some ⟨bd3, 0, none⟩) 1 1), (67, .slice rb ly.length rd), (71, .slice (some ⟨bd10, 0, none⟩) 1 1)] w14 := by
                        intro bd10 bd3 w14 S17
                        refine WA.all [4] (by kernel_rfl) rfl ⟨?_, trivial⟩
                        · skip
                          refine WO.set #[true, true, true, true, true, true, true, true, true, true, true, false, false, false, false, false] (by kernel_rfl) ?_
                          refine WO.append encI S17 2 lx (l.getD (i).toNat 0) 65 22 (.int .i64 0) 8 ⟨bd3, 0, none⟩ 1 rfl (by kernel_rfl) (by kernel_rfl) (by kernel_rfl) (by kernel_rfl) (by decide) (box_cells (S17.nth 0 rfl)) (by kernel_rfl) (by kernel_rfl) (⟨by omega, by omega⟩) ?_
                          intro ad4 cd4 w15 S18
                          replace S18 : Sep w [box bd3 [.int .i64 (l.getD (i).toNat 0)] 3, box bd10 [.int .i64 (slope * (l.getD (i).toNat 0))] 3, rowOf encI ad4 cd4 3 1 (lx ++ [l.getD (i).toNat 0]), rowOf encI rb rd 3 1 ly, box b1 [.slice ra lx.length rc, .slice rb ly.length rd] 24] w15 := S18
                          have S19 : Sep w [box bd10 [.int .i64 (slope * (l.getD (i).toNat 0))] 3, rowOf encI ad4 cd4 3 1 (lx ++ [l.getD (i).toNat 0]), rowOf encI rb rd 3 1 ly, box b1 [.slice ra lx.length rc, .slice rb ly.length rd] 24] w15 := S18.erase 0
                          clear S18
                          refine WB.mk (S19.sub (.cons _ (.cons _ (.cons _ (.cons _ (.slnil)))))) ?_
                          refine WA.take 12 73 (.pointer (some ⟨b1, 0, none⟩)) #[true, true, true, true, true, true, true, true, true, true, true, false, true, false, false, false] (by kernel_rfl) (by kernel_rfl) (by kernel_rfl) (fun _ _ => by kernel_rfl) (by kernel_rfl) ?_
                          refine WA.weaken (env' := [(0, .slice la len cap), (1, .int .i64 slope), (2, .int .i64 x), (7, .pointer (some ⟨b1, 0, none⟩)), (35, .slice la len cap), (36, .int .i64 (len : Int)), (37, .int .i64 i), (65, .slice ad4 ((lx ++ [l.getD (i).toNat 0]).length) cd4), (67, .slice rb ly.length rd), (71, .slice (some ⟨bd10, 0, none⟩) 1 1), (73, .pointer (some ⟨b1, 0, none⟩))]) (by kernel_rfl) ?_
                          exact W4 ad4 cd4 bd10 w15 S19
                      have W7 : ∀ (ad4 : Option Addr) (cd4 : Nat) (bd10 : Nat) (w16 : World), Sep w [box bd10 [.int .i64 (slope * (l.getD (i).toNat 0))] 3, rowOf encI ad4 cd4 3 1 (lx ++ [l.getD (i).toNat 0]), rowOf encI rb rd 3 1 ly, box b1 [.slice ra lx.length rc, .slice rb ly.length rd] 24] w16 → WA Tryd.prog 9 158 R K9_21 (fun w_ => Sep w [] w_) 6 #[true, true, true, true, true, true, false, true, true, true, true, false, false, false, false, false] [(0, .slice la len cap), (1, .int .i64 slope), (2, .int .i64 x), (7, .pointer (some ⟨b1, 0, none⟩)), (35, .slice la len cap), (36, .int .i64 (len : Int)), (37, .int .i64 i), (65, .slice ad4 ((lx ++ [l.getD (i).toNat 0]).length) cd4), (66, .pointer (some ⟨b1, 1, none⟩)), (71, .slice (some ⟨bd10, 0, none⟩) 1 1)] w16 := by
                        intro ad4 cd4 bd10 w16 S20
                        refine WA.all [6] (by kernel_rfl) rfl ⟨?_, trivial⟩
                        · skip
                          refine WO.set #[true, true, true, true, true, true, true, true, true, true, true, false, false, false, false, false] (by kernel_rfl) ?_
                          refine WO.ok (OK.ldBox S20 3 67 22 1 (.slice rb ly.length rd) (by kernel_rfl) rfl (by kernel_rfl)) ?_
                          refine WB.mk (S20.sub (.cons _ (.cons _ (.cons _ (.cons _ (.slnil)))))) ?_
                          refine WA.take 12 73 (.pointer (some ⟨b1, 0, none⟩)) #[true, true, true, true, true, true, true, true, true, true, true, false, true, false, false, false] (by kernel_rfl) (by kernel_rfl) (by kernel_rfl) (fun _ _ => by kernel_rfl) (by kernel_rfl) ?_
                          refine WA.weaken (env' := [(0, .slice la len cap), (1, .int .i64 slope), (2, .int .i64 x), (7, .pointer (some ⟨b1, 0, none⟩)), (35, .slice la len cap), (36, .int .i64 (len : Int)), (37, .int .i64 i), (65, .slice ad4 ((lx ++ [l.getD (i).toNat 0]).length) cd4), (67, .slice rb ly.length rd), (71, .slice (some ⟨bd10, 0, none⟩) 1 1), (73, .pointer (some ⟨b1, 0, none⟩))]) (by kernel_rfl) ?_
                          exact W4 ad4 cd4 bd10 w16 S20
                      have W8 : ∀ (bd10 : Nat) (w17 : World), Sep w [box bd10 [.int .i64 (slope * (l.getD (i).toNat 0))] 3, rowOf encI ra rc 3 1 lx, rowOf encI rb rd 3 1 ly, box b1 [.slice ra lx.length rc, .slice rb ly.length rd] 24] w17 → WA Tryd.prog 9 158 R K9_21 (fun w_ => Sep w [] w_) 7 #[true, true, true, false, false, true, true, true, true, true, true, false, false, false, false, false] [(0, .slice la len cap), (1, .int .i64 slope), (2, .int .i64 x), (7, .pointer (some ⟨b1, 0, none⟩)), (35, .slice la len cap), (36, .int .i64 (len : Int)), (37, .int .i64 i), (62, .slice ra lx.length rc), (63, .int .i64 (l.getD (i).toNat 0)), (67, .slice rb ly.length rd), (71, .slice (some ⟨bd10, 0, none⟩) 1 1)] w17 := by
                        intro bd10 w17 S21
                        refine WA.all [3] (by kernel_rfl) rfl ⟨?_, trivial⟩
                        · skip
                          refine WO.set #[true, true, true, true, false, true, true, true, true, true, true, false, false, false, false, false] (by kernel_rfl) ?_
                          refine WO.newSlice S21 64 1 [.int .i64 (l.getD (i).toNat 0)] 3 (by kernel_rfl) ?_
                          intro bd3 w18 S22
                          refine WB.mk (S22.sub (.cons _ (.cons _ (.cons _ (.cons _ (.cons _ (.slnil))))))) ?_
                          refine WA.weaken (env' := [(0, .slice la len cap), (1, .int .i64 slope), (2, .int .i64 x), (7, .pointer (some ⟨b1, 0, none⟩)), (35, .slice la len cap), (36, .int .i64 (len : Int)), (37, .int .i64 i), (62, .slice ra lx.length rc), (64, .slice (some ⟨bd3, 0, none⟩) 1 1), (67, .slice rb ly.length rd), (71, .slice (some ⟨bd10, 0, none⟩) 1 1)]) (by kernel_rfl) ?_
                          exact W6 bd10 bd3 w18 S22
                      have W9 : ∀ (bd10 : Nat) (bd3 : Nat) (w19 : World), Sep w [box bd3 [.int .i64 (l.getD (i).toNat 0)] 3, box bd10 [.int .i64 (slope * (l.getD (i).toNat 0))] 3, rowOf encI ra rc 3 1 lx, rowOf encI rb rd 3 1 ly, box b1 [.slice ra lx.length rc, .slice rb ly.length rd] 24] w19 → WA Tryd.prog 9 158 R K9_21 (fun w_ => Sep w [] w_) 7 #[true, false, true, true, false, true, true, true, true, true, true, false, false, false, false, false] [(0, .slice la len cap), (1, .int .i64 slope), (2, .int .i64 x), (7, .pointer (some ⟨b1, 0, none⟩)), (35, .slice la len cap), (36, .int .i64 (len : Int)), (37, .int .i64 i), (61, .pointer (some ⟨b1, 0, none⟩)), (64, .slice (some ⟨bd3, 0, none⟩) 1 1), (67, .slice rb ly.length rd), (71, .slice (some ⟨bd10, 0, none⟩) 1 1)] w19 := by
                        intro bd10 bd3 w19 S23
                        refine WA.all [1] (by kernel_rfl) rfl ⟨?_, trivial⟩
                        · skip
                          refine WO.set #[true, true, true, true, false, true, true, true, true, true, true, false, false, false, false, false] (by kernel_rfl) ?_
                          refine WO.ok (OK.ldBox S23 4 62 22 0 (.slice ra lx.length rc) (by kernel_rfl) rfl (by kernel_rfl)) ?_
                          refine WB.mk (S23.sub (.cons _ (.cons _ (.cons _ (.cons _ (.cons _ (.slnil))))))) ?_
                          refine WA.weaken (env' := [(0, .slice la len cap), (1, .int .i64 slope), (2, .int .i64 x), (7, .pointer (some ⟨b1, 0, none⟩)), (35, .slice la len cap), (36, .int .i64 (len : Int)), (37, .int .i64 i), (62, .slice ra lx.length rc), (64, .slice (some ⟨bd3, 0, none⟩) 1 1), (67, .slice rb ly.length rd), (71, .slice (some ⟨bd10, 0, none⟩) 1 1)]) (by kernel_rfl) ?_
                          exact W6 bd10 bd3 w19 S23
                      have W10 : ∀ (bd10 : Nat) (bd3 : Nat) (w20 : World), Sep w [box bd3 [.int .i64 (l.getD (i).toNat 0)] 3, box bd10 [.int .i64 (slope * (l.getD (i).toNat 0))] 3, rowOf encI ra rc 3 1 lx, rowOf encI rb rd 3 1 ly, box b1 [.slice ra lx.length rc, .slice rb ly.length rd] 24] w20 → WA Tryd.prog 9 158 R K9_21 (fun w_ => Sep w [] w_) 7 #[true, true, true, true, false, true, false, true, true, true, true, false, false, false, false, false] [(0, .slice la len cap), (1, .int .i64 slope), (2, .int .i64 x), (7, .pointer (some ⟨b1, 0, none⟩)), (35, .slice la len cap), (36, .int .i64 (len : Int)), (37, .int .i64 i), (62, .slice ra lx.length rc), (64, .slice (some ⟨bd3, 0, none⟩) 1 1), (66, .pointer (some ⟨b1, 1, none⟩)), (71, .slice (some ⟨bd10, 0, none⟩) 1 1)] w20 := by
                        intro bd10 bd3 w20 S24
                        refine WA.all [4, 6] (by kernel_rfl) rfl ⟨?_, ?_, trivial⟩
                        · skip
                          refine WO.set #[true, true, true, true, true, true, false, true, true, true, true, false, false, false, false, false] (by kernel_rfl) ?_
                          refine WO.append encI S24 2 lx (l.getD (i).toNat 0) 65 22 (.int .i64 0) 8 ⟨bd3, 0, none⟩ 1 rfl (by kernel_rfl) (by kernel_rfl) (by kernel_rfl) (by kernel_rfl) (by decide) (box_cells (S24.nth 0 rfl)) (by kernel_rfl) (by kernel_rfl) (⟨by omega, by omega⟩) ?_
                          intro ad4 cd4 w21 S25
                          replace S25 : Sep w [box bd3 [.int .i64 (l.getD (i).toNat 0)] 3, box bd10 [.int .i64 (slope * (l.getD (i).toNat 0))] 3, rowOf encI ad4 cd4 3 1 (lx ++ [l.getD (i).toNat 0]), rowOf encI rb rd 3 1 ly, box b1 [.slice ra lx.length rc, .slice rb ly.length rd] 24] w21 := S25
                          have S26 : Sep w [box bd10 [.int .i64 (slope * (l.getD (i).toNat 0))] 3, rowOf encI ad4 cd4 3 1 (lx ++ [l.getD (i).toNat 0]), rowOf encI rb rd 3 1 ly, box b1 [.slice ra lx.length rc, .slice rb ly.length rd] 24] w21 := S25.erase 0
                          clear S25
                          refine WB.mk (S26.sub (.cons _ (.cons _ (.cons _ (.cons _ (.slnil)))))) ?_
                          refine WA.weaken (env' := [(0, .slice la len cap), (1, .int .i64 slope), (2, .int .i64 x), (7, .pointer (some ⟨b1, 0, none⟩)), (35, .slice la len cap), (36, .int .i64 (len : Int)), (37, .int .i64 i), (65, .slice ad4 ((lx ++ [l.getD (i).toNat 0]).length) cd4), (66, .pointer (some ⟨b1, 1, none⟩)), (71, .slice (some ⟨bd10, 0, none⟩) 1 1)]) (by kernel_rfl) ?_
                          exact W7 ad4 cd4 bd10 w21 S26
                        · skip
                          refine WO.set #[true, true, true, true, false, true, true, true, true, true, true, false, false, false, false, false] (by kernel_rfl) ?_
                          refine WO.ok (OK.ldBox S24 4 67 22 1 (.slice rb ly.length rd) (by kernel_rfl) rfl (by kernel_rfl)) ?_
                          refine WB.mk (S24.sub (.cons _ (.cons _ (.cons _ (.cons _ (.cons _ (.slnil))))))) ?_
                          refine WA.weaken (env' := [(0, .slice la len cap), (1, .int .i64 slope), (2, .int .i64 x), (7, .pointer (some ⟨b1, 0, none⟩)), (35, .slice la len cap), (36, .int .i64 (len : Int)), (37, .int .i64 i), (62, .slice ra lx.length rc), (64, .slice (some ⟨bd3, 0, none⟩) 1 1), (67, .slice rb ly.length rd), (71, .slice (some ⟨bd10, 0, none⟩) 1 1)]) (by kernel_rfl) ?_
                          exact W6 bd10 bd3 w20 S24
                      have W11 : ∀ (bd3 : Nat) (w22 : World), Sep w [box bd3 [.int .i64 (l.getD (i).toNat 0)] 3, rowOf encI ra rc 3 1 lx, rowOf encI rb rd 3 1 ly, box b1 [.slice ra lx.length rc, .slice rb ly.length rd] 24] w22 → WA Tryd.prog 9 158 R K9_21 (fun w_ => Sep w [] w_) 7 #[true, true, true, true, false, true, true, true, true, true, false, false, false, false, false, false] [(0, .slice la len cap), (1, .int .i64 slope), (2, .int .i64 x), (7, .pointer (some ⟨b1, 0, none⟩)), (35, .slice la len cap), (36, .int .i64 (len : Int)), (37, .int .i64 i), (62, .slice ra lx.length rc), (64, .slice (some ⟨bd3, 0, none⟩) 1 1), (67, .slice rb ly.length rd), (70, .int .i64 (slope * (l.getD (i).toNat 0)))] w22 := by
                        intro bd3 w22 S27
                        refine WA.all [4, 10] (by kernel_rfl) rfl ⟨?_, ?_, trivial⟩
                        · skip
                          refine WO.set #[true, true, true, true, true, true, true, true, true, true, false, false, false, false, false, false] (by kernel_rfl) ?_
                          refine WO.append encI S27 1 lx (l.getD (i).toNat 0) 65 22 (.int .i64 0) 8 ⟨bd3, 0, none⟩ 1 rfl (by kernel_rfl) (by kernel_rfl) (by kernel_rfl) (by kernel_rfl) (by decide) (box_cells (S27.nth 0 rfl)) (by kernel_rfl) (by kernel_rfl) (⟨by omega, by omega⟩) ?_
                          intro ad4 cd4 w23 S28
                          replace S28 : Sep w [box bd3 [.int .i64 (l.getD (i).toNat 0)] 3, rowOf encI ad4 cd4 3 1 (lx ++ [l.getD (i).toNat 0]), rowOf encI rb rd 3 1 ly, box b1 [.slice ra lx.length rc, .slice rb ly.length rd] 24] w23 := S28
                          have S29 : Sep w [rowOf encI ad4 cd4 3 1 (lx ++ [l.getD (i).toNat 0]), rowOf encI rb rd 3 1 ly, box b1 [.slice ra lx.length rc, .slice rb ly.length rd] 24] w23 := S28.erase 0
                          clear S28
                          refine WB.mk (S29.sub (.cons _ (.cons _ (.cons _ (.slnil))))) ?_
                          refine WA.take 12 73 (.pointer (some ⟨b1, 0, none⟩)) #[true, true, true, true, true, true, true, true, true, true, false, false, true, false, false, false] (by kernel_rfl) (by kernel_rfl) (by kernel_rfl) (fun _ _ => by kernel_rfl) (by kernel_rfl) ?_
                          refine WA.weaken (env' := [(0, .slice la len cap), (1, .int .i64 slope), (2, .int .i64 x), (7, .pointer (some ⟨b1, 0, none⟩)), (35, .slice la len cap), (36, .int .i64 (len : Int)), (37, .int .i64 i), (65, .slice ad4 ((lx ++ [l.getD (i).toNat 0]).length) cd4), (67, .slice rb ly.length rd), (70, .int .i64 (slope * (l.getD (i).toNat 0))), (73, .pointer (some ⟨b1, 0, none⟩))]) (by kernel_rfl) ?_
                          exact W5 ad4 cd4 w23 S29
                        · skip
                          refine WO.set #[true, true, true, true, false, true, true, true, true, true, true, false, false, false, false, false] (by kernel_rfl) ?_
                          refine WO.newSlice S27 71 1 [.int .i64 (slope * (l.getD (i).toNat 0))] 3 (by kernel_rfl) ?_
                          intro bd10 w24 S30
                          refine WB.mk (S30.sub (.cons _ (.cons _ (.cons _ (.cons _ (.cons _ (.slnil))))))) ?_
                          refine WA.weaken (env' := [(0, .slice la len cap), (1, .int .i64 slope), (2, .int .i64 x), (7, .pointer (some ⟨b1, 0, none⟩)), (35, .slice la len cap), (36, .int .i64 (len : Int)), (37, .int .i64 i), (62, .slice ra lx.length rc), (64, .slice (some ⟨bd3, 0, none⟩) 1 1), (67, .slice rb ly.length rd), (71, .slice (some ⟨bd10, 0, none⟩) 1 1)]) (by kernel_rfl) ?_
                          have S31 : Sep w [box bd10 [.int .i64 (slope * (l.getD (i).toNat 0))] 3, box bd3 [.int .i64 (l.getD (i).toNat 0)] 3, rowOf encI ra rc 3 1 lx, rowOf encI rb rd 3 1 ly, box b1 [.slice ra lx.length rc, .slice rb ly.length rd] 24] w24 := S30.front 0 rfl
                          have S32 : Sep w [box bd3 [.int .i64 (l.getD (i).toNat 0)] 3, box bd10 [.int .i64 (slope * (l.getD (i).toNat 0))] 3, rowOf encI ra rc 3 1 lx, rowOf encI rb rd 3 1 ly, box b1 [.slice ra lx.length rc, .slice rb ly.length rd] 24] w24 := S31.front 1 rfl
                          exact W6 bd10 bd3 w24 S32
                      have W12 : ∀ (ad4 : Option Addr) (cd4 : Nat) (w25 : World), Sep w [rowOf encI ad4 cd4 3 1 (lx ++ [l.getD (i).toNat 0]), rowOf encI rb rd 3 1 ly, box b1 [.slice ra lx.length rc, .slice rb ly.length rd] 24] w25 → WA Tryd.prog 9 158 R K9_21 (fun w_ => Sep w [] w_) 7 #[true, true, true, true, true, true, false, true, true, true, false, false, false, false, false, false] [(0, .slice la len cap), (1, .int .i64 slope), (2, .int .i64 x), (7, .pointer (some ⟨b1, 0, none⟩)), (35, .slice la len cap), (36, .int .i64 (len : Int)), (37, .int .i64 i), (65, .slice ad4 ((lx ++ [l.getD (i).toNat 0]).length) cd4), (66, .pointer (some ⟨b1, 1, none⟩)), (70, .int .i64 (slope * (l.getD (i).toNat 0)))] w25 := by
                        intro ad4 cd4 w25 S33
                        refine WA.all [6, 10] (by kernel_rfl) rfl ⟨?_, ?_, trivial⟩
                        · skip
                          refine WO.set #[true, true, true, true, true, true, true, true, true, true, false, false, false, false, false, false] (by kernel_rfl) ?_
                          refine WO.ok (OK.ldBox S33 2 67 22 1 (.slice rb ly.length rd) (by kernel_rfl) rfl (by kernel_rfl)) ?_
                          refine WB.mk (S33.sub (.cons _ (.cons _ (.cons _ (.slnil))))) ?_
                          refine WA.take 12 73 (.pointer (some ⟨b1, 0, none⟩)) #[true, true, true, true, true, true, true, true, true, true, false, false, true, false, false, false] (by kernel_rfl) (by kernel_rfl) (by kernel_rfl) (fun _ _ => by kernel_rfl) (by kernel_rfl) ?_
                          refine WA.weaken (env' := [(0, .slice la len cap), (1, .int .i64 slope), (2, .int .i64 x), (7, .pointer (some ⟨b1, 0, none⟩)), (35, .slice la len cap), (36, .int .i64 (len : Int)), (37, .int .i64 i), (65, .slice ad4 ((lx ++ [l.getD (i).toNat 0]).length) cd4), (67, .slice rb ly.length rd), (70, .int .i64 (slope * (l.getD (i).toNat 0))), (73, .pointer (some ⟨b1, 0, none⟩))]) (by kernel_rfl) ?_
                          exact W5 ad4 cd4 w25 S33
                        · skip
                          refine WO.set #[true, true, true, true, true, true, false, true, true, true, true, false, false, false, false, false] (by kernel_rfl) ?_
                          refine WO.newSlice S33 71 1 [.int .i64 (slope * (l.getD (i).toNat 0))] 3 (by kernel_rfl) ?_
                          intro bd10 w26 S34
                          refine WB.mk (S34.sub (.cons _ (.cons _ (.cons _ (.cons _ (.slnil)))))) ?_
                          refine WA.weaken (env' := [(0, .slice la len cap), (1, .int .i64 slope), (2, .int .i64 x), (7, .pointer (some ⟨b1, 0, none⟩)), (35, .slice la len cap), (36, .int .i64 (len : Int)), (37, .int .i64 i), (65, .slice ad4 ((lx ++ [l.getD (i).toNat 0]).length) cd4), (66, .pointer (some ⟨b1, 1, none⟩)), (71, .slice (some ⟨bd10, 0, none⟩) 1 1)]) (by kernel_rfl) ?_
                          exact W7 ad4 cd4 bd10 w26 S34
                      have W13 : ∀ (bd10 : Nat) (w27 : World), Sep w [box bd10 [.int .i64 (slope * (l.getD (i).toNat 0))] 3, rowOf encI ra rc 3 1 lx, rowOf encI rb rd 3 1 ly, box b1 [.slice ra lx.length rc, .slice rb ly.length rd] 24] w27 → WA Tryd.prog 9 158 R K9_21 (fun w_ => Sep w [] w_) 8 #[true, true, true, false, false, true, false, true, true, true, true, false, false, false, false, false] [(0, .slice la len cap), (1, .int .i64 slope), (2, .int .i64 x), (7, .pointer (some ⟨b1, 0, none⟩)), (35, .slice la len cap), (36, .int .i64 (len : Int)), (37, .int .i64 i), (62, .slice ra lx.length rc), (63, .int .i64 (l.getD (i).toNat 0)), (66, .pointer (some ⟨b1, 1, none⟩)), (71, .slice (some ⟨bd10, 0, none⟩) 1 1)] w27 := by
                        intro bd10 w27 S35
                        refine WA.all [3, 6] (by kernel_rfl) rfl ⟨?_, ?_, trivial⟩
                        · skip
                          refine WO.set #[true, true, true, true, false, true, false, true, true, true, true, false, false, false, false, false] (by kernel_rfl) ?_
                          refine WO.newSlice S35 64 1 [.int .i64 (l.getD (i).toNat 0)] 3 (by kernel_rfl) ?_
                          intro bd3 w28 S36
                          refine WB.mk (S36.sub (.cons _ (.cons _ (.cons _ (.cons _ (.cons _ (.slnil))))))) ?_
                          refine WA.weaken (env' := [(0, .slice la len cap), (1, .int .i64 slope), (2, .int .i64 x), (7, .pointer (some ⟨b1, 0, none⟩)), (35, .slice la len cap), (36, .int .i64 (len : Int)), (37, .int .i64 i), (62, .slice ra lx.length rc), (64, .slice (some ⟨bd3, 0, none⟩) 1 1), (66, .pointer (some ⟨b1, 1, none⟩)), (71, .slice (some ⟨bd10, 0, none⟩) 1 1)]) (by kernel_rfl) ?_
                          exact W10 bd10 bd3 w28 S36
                        · skip
                          refine WO.set #[true, true, true, false, false, true, true, true, true, true, true, false, false, false, false, false] (by kernel_rfl) ?_
                          refine WO.ok (OK.ldBox S35 3 67 22 1 (.slice rb ly.length rd) (by kernel_rfl) rfl (by kernel_rfl)) ?_
                          refine WB.mk (S35.sub (.cons _ (.cons _ (.cons _ (.cons _ (.slnil)))))) ?_
                          refine WA.weaken (env' := [(0, .slice la len cap), (1, .int .i64 slope), (2, .int .i64 x), (7, .pointer (some ⟨b1, 0, none⟩)), (35, .slice la len cap), (36, .int .i64 (len : Int)), (37, .int .i64 i), (62, .slice ra lx.length rc), (63, .int .i64 (l.getD (i).toNat 0)), (67, .slice rb ly.length rd), (71, .slice (some ⟨bd10, 0, none⟩) 1 1)]) (by kernel_rfl) ?_
                          exact W8 bd10 w27 S35
                      have W14 : ∀ (bd10 : Nat) (bd3 : Nat) (w29 : World), Sep w [box bd3 [.int .i64 (l.getD (i).toNat 0)] 3, box bd10 [.int .i64 (slope * (l.getD (i).toNat 0))] 3, rowOf encI ra rc 3 1 lx, rowOf encI rb rd 3 1 ly, box b1 [.slice ra lx.length rc, .slice rb ly.length rd] 24] w29 → WA Tryd.prog 9 158 R K9_21 (fun w_ => Sep w [] w_) 8 #[true, false, true, true, false, true, false, true, true, true, true, false, false, false, false, false] [(0, .slice la len cap), (1, .int .i64 slope), (2, .int .i64 x), (7, .pointer (some ⟨b1, 0, none⟩)), (35, .slice la len cap), (36, .int .i64 (len : Int)), (37, .int .i64 i), (61, .pointer (some ⟨b1, 0, none⟩)), (64, .slice (some ⟨bd3, 0, none⟩) 1 1), (66, .pointer (some ⟨b1, 1, none⟩)), (71, .slice (some ⟨bd10, 0, none⟩) 1 1)] w29 := by
                        intro bd10 bd3 w29 S37
                        refine WA.all [1, 6] (by kernel_rfl) rfl ⟨?_, ?_, trivial⟩
                        · skip
                          refine WO.set #[true, true, true, true, false, true, false, true, true, true, true, false, false, false, false, false] (by kernel_rfl) ?_
                          refine WO.ok (OK.ldBox S37 4 62 22 0 (.slice ra lx.length rc) (by kernel_rfl) rfl (by kernel_rfl)) ?_
                          refine WB.mk (S37.sub (.cons _ (.cons _ (.cons _ (.cons _ (.cons _ (.slnil))))))) ?_
                          refine WA.weaken (env' := [(0, .slice la len cap), (1, .int .i64 slope), (2, .int .i64 x), (7, .pointer (some ⟨b1, 0, none⟩)), (35, .slice la len cap), (36, .int .i64 (len : Int)), (37, .int .i64 i), (62, .slice ra lx.length rc), (64, .slice (some ⟨bd3, 0, none⟩) 1 1), (66, .pointer (some ⟨b1, 1, none⟩)), (71, .slice (some ⟨bd10, 0, none⟩) 1 1)]) (by kernel_rfl) ?_
                          exact W10 bd10 bd3 w29 S37
                        · skip
                          refine WO.set #[true, false, true, true, false, true, true, true, true, true, true, false, false, false, false, false] (by kernel_rfl) ?_
                          refine WO.ok (OK.ldBox S37 4 67 22 1 (.slice rb ly.length rd) (by kernel_rfl) rfl (by kernel_rfl)) ?_
                          refine WB.mk (S37.sub (.cons _ (.cons _ (.cons _ (.cons _ (.cons _ (.slnil))))))) ?_
                          refine WA.weaken (env' := [(0, .slice la len cap), (1, .int .i64 slope), (2, .int .i64 x), (7, .pointer (some ⟨b1, 0, none⟩)), (35, .slice la len cap), (36, .int .i64 (len : Int)), (37, .int .i64 i), (61, .pointer (some ⟨b1, 0, none⟩)), (64, .slice (some ⟨bd3, 0, none⟩) 1 1), (67, .slice rb ly.length rd), (71, .slice (some ⟨bd10, 0, none⟩) 1 1)]) (by kernel_rfl) ?_
                          exact W9 bd10 bd3 w29 S37
                      have W15 : ∀ (bd10 : Nat) (w30 : World), Sep w [box bd10 [.int .i64 (slope * (l.getD (i).toNat 0))] 3, rowOf encI ra rc 3 1 lx, rowOf encI rb rd 3 1 ly, box b1 [.slice ra lx.length rc, .slice rb ly.length rd] 24] w30 → WA Tryd.prog 9 158 R K9_21 (fun w_ => Sep w [] w_) 8 #[true, false, true, false, false, true, true, true, true, true, true, false, false, false, false, false] [(0, .slice la len cap), (1, .int .i64 slope), (2, .int .i64 x), (7, .pointer (some ⟨b1, 0, none⟩)), (35, .slice la len cap), (36, .int .i64 (len : Int)), (37, .int .i64 i), (61, .pointer (some ⟨b1, 0, none⟩)), (63, .int .i64 (l.getD (i).toNat 0)), (67, .slice rb ly.length rd), (71, .slice (some ⟨bd10, 0, none⟩) 1 1)] w30 := by
                        intro bd10 w30 S38
                        refine WA.all [1, 3] (by kernel_rfl) rfl ⟨?_, ?_, trivial⟩
                        · skip
                          refine WO.set #[true, true, true, false, false, true, true, true, true, true, true, false, false, false, false, false] (by kernel_rfl) ?_
                          refine WO.ok (OK.ldBox S38 3 62 22 0 (.slice ra lx.length rc) (by kernel_rfl) rfl (by kernel_rfl)) ?_
                          refine WB.mk (S38.sub (.cons _ (.cons _ (.cons _ (.cons _ (.slnil)))))) ?_
                          refine WA.weaken (env' := [(0, .slice la len cap), (1, .int .i64 slope), (2, .int .i64 x), (7, .pointer (some ⟨b1, 0, none⟩)), (35, .slice la len cap), (36, .int .i64 (len : Int)), (37, .int .i64 i), (62, .slice ra lx.length rc), (63, .int .i64 (l.getD (i).toNat 0)), (67, .slice rb ly.length rd), (71, .slice (some ⟨bd10, 0, none⟩) 1 1)]) (by kernel_rfl) ?_
                          exact W8 bd10 w30 S38
                        · skip
                          refine WO.set #[true, false, true, true, false, true, true, true, true, true, true, false, false, false, false, false] (by kernel_rfl) ?_
                          refine WO.newSlice S38 64 1 [.int .i64 (l.getD (i).toNat 0)] 3 (by kernel_rfl) ?_
                          intro bd3 w31 S39
                          refine WB.mk (S39.sub (.cons _ (.cons _ (.cons _ (.cons _ (.cons _ (.slnil))))))) ?_
                          refine WA.weaken (env' := [(0, .slice la len cap), (1, .int .i64 slope), (2, .int .i64 x), (7, .pointer (some ⟨b1, 0, none⟩)), (35, .slice la len cap), (36, .int .i64 (len : Int)), (37, .int .i64 i), (61, .pointer (some ⟨b1, 0, none⟩)), (64, .slice (some ⟨bd3, 0, none⟩) 1 1), (67, .slice rb ly.length rd), (71, .slice (some ⟨bd10, 0, none⟩) 1 1)]) (by kernel_rfl) ?_
                          exact W9 bd10 bd3 w31 S39
                      have W16 : ∀ (w32 : World), Sep w [rowOf encI ra rc 3 1 lx, rowOf encI rb rd 3 1 ly, box b1 [.slice ra lx.length rc, .slice rb ly.length rd] 24] w32 → WA Tryd.prog 9 158 R K9_21 (fun w_ => Sep w [] w_) 8 #[true, true, true, false, false, true, true, true, true, true, false, false, false, false, false, false] [(0, .slice la len cap), (1, .int .i64 slope), (2, .int .i64 x), (7, .pointer (some ⟨b1, 0, none⟩)), (35, .slice la len cap), (36, .int .i64 (len : Int)), (37, .int .i64 i), (62, .slice ra lx.length rc), (63, .int .i64 (l.getD (i).toNat 0)), (67, .slice rb ly.length rd), (70, .int .i64 (slope * (l.getD (i).toNat 0)))] w32 := by
                        intro w32 S40
                        refine WA.all [3, 10] (by kernel_rfl) rfl ⟨?_, ?_, trivial⟩
                        · skip
                          refine WO.set #[true, true, true, true, false, true, true, true, true, true, false, false, false, false, false, false] (by kernel_rfl) ?_
                          refine WO.newSlice S40 64 1 [.int .i64 (l.getD (i).toNat 0)] 3 (by kernel_rfl) ?_
                          intro bd3 w33 S41
                          refine WB.mk (S41.sub (.cons _ (.cons _ (.cons _ (.cons _ (.slnil)))))) ?_
                          refine WA.weaken (env' := [(0, .slice la len cap), (1, .int .i64 slope), (2, .int .i64 x), (7, .pointer (some ⟨b1, 0, none⟩)), (35, .slice la len cap), (36, .int .i64 (len : Int)), (37, .int .i64 i), (62, .slice ra lx.length rc), (64, .slice (some ⟨bd3, 0, none⟩) 1 1), (67, .slice rb ly.length rd), (70, .int .i64 (slope * (l.getD (i).toNat 0)))]) (by kernel_rfl) ?_
                          exact W11 bd3 w33 S41
                        · skip
                          refine WO.set #[true, true, true, false, false, true, true, true, true, true, true, false, false, false, false, false] (by kernel_rfl) ?_
                          refine WO.newSlice S40 71 1 [.int .i64 (slope * (l.getD (i).toNat 0))] 3 (by kernel_rfl) ?_
                          intro bd10 w34 S42
                          refine WB.mk (S42.sub (.cons _ (.cons _ (.cons _ (.cons _ (.slnil)))))) ?_
                          refine WA.weaken (env' := [(0, .slice la len cap), (1, .int .i64 slope), (2, .int .i64 x), (7, .pointer (some ⟨b1, 0, none⟩)), (35, .slice la len cap), (36, .int .i64 (len : Int)), (37, .int .i64 i), (62, .slice ra lx.length rc), (63, .int .i64 (l.getD (i).toNat 0)), (67, .slice rb ly.length rd), (71, .slice (some ⟨bd10, 0, none⟩) 1 1)]) (by kernel_rfl) ?_
                          exact W8 bd10 w34 S42
                      have W17 : ∀ (bd3 : Nat) (w35 : World), Sep w [box bd3 [.int .i64 (l.getD (i).toNat 0)] 3, rowOf encI ra rc 3 1 lx, rowOf encI rb rd 3 1 ly, box b1 [.slice ra lx.length rc, .slice rb ly.length rd] 24] w35 → WA Tryd.prog 9 158 R K9_21 (fun w_ => Sep w [] w_) 8 #[true, false, true, true, false, true, true, true, true, true, false, false, false, false, false, false] [(0, .slice la len cap), (1, .int .i64 slope), (2, .int .i64 x), (7, .pointer (some ⟨b1, 0, none⟩)), (35, .slice la len cap), (36, .int .i64 (len : Int)), (37, .int .i64 i), (61, .pointer (some ⟨b1, 0, none⟩)), (64, .slice (some ⟨bd3, 0, none⟩) 1 1), (67, .slice rb ly.length rd), (70, .int .i64 (slope * (l.getD (i).toNat 0)))] w35 := by
                        intro bd3 w35 S43
                        refine WA.all [1, 10] (by kernel_rfl) rfl ⟨?_, ?_, trivial⟩
                        · skip
                          refine WO.set #[true, true, true, true, false, true, true, true, true, true, false, false, false, false, false, false] (by kernel_rfl) ?_
                          refine WO.ok (OK.ldBox S43 3 62 22 0 (.slice ra lx.length rc) (by kernel_rfl) rfl (by kernel_rfl)) ?_
                          refine WB.mk (S43.sub (.cons _ (.cons _ (.cons _ (.cons _ (.slnil)))))) ?_
                          refine WA.weaken (env' := [(0, .slice la len cap), (1, .int .i64 slope), (2, .int .i64 x), (7, .pointer (some ⟨b1, 0, none⟩)), (35, .slice la len cap), (36, .int .i64 (len : Int)), (37, .int .i64 i), (62, .slice ra lx.length rc), (64, .slice (some ⟨bd3, 0, none⟩) 1 1), (67, .slice rb ly.length rd), (70, .int .i64 (slope * (l.getD (i).toNat 0)))]) (by kernel_rfl) ?_
                          exact W11 bd3 w35 S43
                        · skip
                          refine WO.set #[true, false, true, true, false, true, true, true, true, true, true, false, false, false, false, false] (by kernel_rfl) ?_
                          refine WO.newSlice S43 71 1 [.int .i64 (slope * (l.getD (i).toNat 0))] 3 (by kernel_rfl) ?_
                          intro bd10 w36 S44
                          refine WB.mk (S44.sub (.cons _ (.cons _ (.cons _ (.cons _ (.cons _ (.slnil))))))) ?_
                          refine WA.weaken (env' := [(0, .slice la len cap), (1, .int .i64 slope), (2, .int .i64 x), (7, .pointer (some ⟨b1, 0, none⟩)), (35, .slice la len cap), (36, .int .i64 (len : Int)), (37, .int .i64 i), (61, .pointer (some ⟨b1, 0, none⟩)), (64, .slice (some ⟨bd3, 0, none⟩) 1 1), (67, .slice rb ly.length rd), (71, .slice (some ⟨bd10, 0, none⟩) 1 1)]) (by kernel_rfl) ?_
                          have S45 : Sep w [box bd10 [.int .i64 (slope * (l.getD (i).toNat 0))] 3, box bd3 [.int .i64 (l.getD (i).toNat 0)] 3, rowOf encI ra rc 3 1 lx, rowOf encI rb rd 3 1 ly, box b1 [.slice ra lx.length rc, .slice rb ly.length rd] 24] w36 := S44.front 0 rfl
                          have S46 : Sep w [box bd3 [.int .i64 (l.getD (i).toNat 0)] 3, box bd10 [.int .i64 (slope * (l.getD (i).toNat 0))] 3, rowOf encI ra rc 3 1 lx, rowOf encI rb rd 3 1 ly, box b1 [.slice ra lx.length rc, .slice rb ly.length rd] 24] w36 := S45.front 1 rfl
                          exact W9 bd10 bd3 w36 S46
                      have W18 : ∀ (bd3 : Nat) (w37 : World), Sep w [box bd3 [.int .i64 (l.getD (i).toNat 0)] 3, rowOf encI ra rc 3 1 lx, rowOf encI rb rd 3 1 ly, box b1 [.slice ra lx.length rc, .slice rb ly.length rd] 24] w37 → WA Tryd.prog 9 158 R K9_21 (fun w_ => Sep w [] w_) 8 #[true, true, true, true, false, true, false, true, true, true, false, false, false, false, false, false] [(0, .slice la len cap), (1, .int .i64 slope), (2, .int .i64 x), (7, .pointer (some ⟨b1, 0, none⟩)), (35, .slice la len cap), (36, .int .i64 (len : Int)), (37, .int .i64 i), (62, .slice ra lx.length rc), (64, .slice (some ⟨bd3, 0, none⟩) 1 1), (66, .pointer (some ⟨b1, 1, none⟩)), (70, .int .i64 (slope * (l.getD (i).toNat 0)))] w37 := by
                        intro bd3 w37 S47
                        refine WA.all [4, 6, 10] (by kernel_rfl) rfl ⟨?_, ?_, ?_, trivial⟩
                        · skip
                          refine WO.set #[true, true, true, true, true, true, false, true, true, true, false, false, false, false, false, false] (by kernel_rfl) ?_
                          refine WO.append encI S47 1 lx (l.getD (i).toNat 0) 65 22 (.int .i64 0) 8 ⟨bd3, 0, none⟩ 1 rfl (by kernel_rfl) (by kernel_rfl) (by kernel_rfl) (by kernel_rfl) (by decide) (box_cells (S47.nth 0 rfl)) (by kernel_rfl) (by kernel_rfl) (⟨by omega, by omega⟩) ?_
                          intro ad4 cd4 w38 S48
                          replace S48 : Sep w [box bd3 [.int .i64 (l.getD (i).toNat 0)] 3, rowOf encI ad4 cd4 3 1 (lx ++ [l.getD (i).toNat 0]), rowOf encI rb rd 3 1 ly, box b1 [.slice ra lx.length rc, .slice rb ly.length rd] 24] w38 := S48
                          have S49 : Sep w [rowOf encI ad4 cd4 3 1 (lx ++ [l.getD (i).toNat 0]), rowOf encI rb rd 3 1 ly, box b1 [.slice ra lx.length rc, .slice rb ly.length rd] 24] w38 := S48.erase 0
                          clear S48
                          refine WB.mk (S49.sub (.cons _ (.cons _ (.cons _ (.slnil))))) ?_
                          refine WA.weaken (env' := [(0, .slice la len cap), (1, .int .i64 slope), (2, .int .i64 x), (7, .pointer (some ⟨b1, 0, none⟩)), (35, .slice la len cap), (36, .int .i64 (len : Int)), (37, .int .i64 i), (65, .slice ad4 ((lx ++ [l.getD (i).toNat 0]).length) cd4), (66, .pointer (some ⟨b1, 1, none⟩)), (70, .int .i64 (slope * (l.getD (i).toNat 0)))]) (by kernel_rfl) ?_
                          exact W12 ad4 cd4 w38 S49
                        · skip
                          refine WO.set #[true, true, true, true, false, true, true, true, true, true, false, false, false, false, false, false] (by kernel_rfl) ?_
                          refine WO.ok (OK.ldBox S47 3 67 22 1 (.slice rb ly.length rd) (by kernel_rfl) rfl (by kernel_rfl)) ?_
                          refine WB.mk (S47.sub (.cons _ (.cons _ (.cons _ (.cons _ (.slnil)))))) ?_
                          refine WA.weaken (env' := [(0, .slice la len cap), (1, .int .i64 slope), (2, .int .i64 x), (7, .pointer (some ⟨b1, 0, none⟩)), (35, .slice la len cap), (36, .int .i64 (len : Int)), (37, .int .i64 i), (62, .slice ra lx.length rc), (64, .slice (some ⟨bd3, 0, none⟩) 1 1), (67, .slice rb ly.length rd), (70, .int .i64 (slope * (l.getD (i).toNat 0)))]) (by kernel_rfl) ?_
                          exact W11 bd3 w37 S47
                        · skip
                          refine WO.set #[true, true, true, true, false, true, false, true, true, true, true, false, false, false, false, false] (by kernel_rfl) ?_
                          refine WO.newSlice S47 71 1 [.int .i64 (slope * (l.getD (i).toNat 0))] 3 (by kernel_rfl) ?_
                          intro bd10 w39 S50
                          refine WB.mk (S50.sub (.cons _ (.cons _ (.cons _ (.cons _ (.cons _ (.slnil))))))) ?_
                          refine WA.weaken (env' := [(0, .slice la len cap), (1, .int .i64 slope), (2, .int .i64 x), (7, .pointer (some ⟨b1, 0, none⟩)), (35, .slice la len cap), (36, .int .i64 (len : Int)), (37, .int .i64 i), (62, .slice ra lx.length rc), (64, .slice (some ⟨bd3, 0, none⟩) 1 1), (66, .pointer (some ⟨b1, 1, none⟩)), (71, .slice (some ⟨bd10, 0, none⟩) 1 1)]) (by kernel_rfl) ?_
                          have S51 : Sep w [box bd10 [.int .i64 (slope * (l.getD (i).toNat 0))] 3, box bd3 [.int .i64 (l.getD (i).toNat 0)] 3, rowOf encI ra rc 3 1 lx, rowOf encI rb rd 3 1 ly, box b1 [.slice ra lx.length rc, .slice rb ly.length rd] 24] w39 := S50.front 0 rfl
                          have S52 : Sep w [box bd3 [.int .i64 (l.getD (i).toNat 0)] 3, box bd10 [.int .i64 (slope * (l.getD (i).toNat 0))] 3, rowOf encI ra rc 3 1 lx, rowOf encI rb rd 3 1 ly, box b1 [.slice ra lx.length rc, .slice rb ly.length rd] 24] w39 := S51.front 1 rfl
                          exact W10 bd10 bd3 w39 S52
                      have W19 : ∀ (w40 : World), Sep w [rowOf encI ra rc 3 1 lx, rowOf encI rb rd 3 1 ly, box b1 [.slice ra lx.length rc, .slice rb ly.length rd] 24] w40 → WA Tryd.prog 9 158 R K9_21 (fun w_ => Sep w [] w_) 9 #[true, true, true, false, false, true, false, true, true, true, false, false, false, false, false, false] [(0, .slice la len cap), (1, .int .i64 slope), (2, .int .i64 x), (7, .pointer (some ⟨b1, 0, none⟩)), (35, .slice la len cap), (36, .int .i64 (len : Int)), (37, .int .i64 i), (62, .slice ra lx.length rc), (63, .int .i64 (l.getD (i).toNat 0)), (66, .pointer (some ⟨b1, 1, none⟩)), (70, .int .i64 (slope * (l.getD (i).toNat 0)))] w40 := by
                        intro w40 S53
                        refine WA.all [3, 6, 10] (by kernel_rfl) rfl ⟨?_, ?_, ?_, trivial⟩
                        · skip
                          refine WO.set #[true, true, true, true, false, true, false, true, true, true, false, false, false, false, false, false] (by kernel_rfl) ?_
                          refine WO.newSlice S53 64 1 [.int .i64 (l.getD (i).toNat 0)] 3 (by kernel_rfl) ?_
                          intro bd3 w41 S54
                          refine WB.mk (S54.sub (.cons _ (.cons _ (.cons _ (.cons _ (.slnil)))))) ?_
                          refine WA.weaken (env' := [(0, .slice la len cap), (1, .int .i64 slope), (2, .int .i64 x), (7, .pointer (some ⟨b1, 0, none⟩)), (35, .slice la len cap), (36, .int .i64 (len : Int)), (37, .int .i64 i), (62, .slice ra lx.length rc), (64, .slice (some ⟨bd3, 0, none⟩) 1 1), (66, .pointer (some ⟨b1, 1, none⟩)), (70, .int .i64 (slope * (l.getD (i).toNat 0)))]) (by kernel_rfl) ?_
                          exact W18 bd3 w41 S54
                        · skip
                          refine WO.set #[true, true, true, false, false, true, true, true, true, true, false, false, false, false, false, false] (by kernel_rfl) ?_
                          refine WO.ok (OK.ldBox S53 2 67 22 1 (.slice rb ly.length rd) (by kernel_rfl) rfl (by kernel_rfl)) ?_
                          refine WB.mk (S53.sub (.cons _ (.cons _ (.cons _ (.slnil))))) ?_
                          refine WA.weaken (env' := [(0, .slice la len cap), (1, .int .i64 slope), (2, .int .i64 x), (7, .pointer (some ⟨b1, 0, none⟩)), (35, .slice la len cap), (36, .int .i64 (len : Int)), (37, .int .i64 i), (62, .slice ra lx.length rc), (63, .int .i64 (l.getD (i).toNat 0)), (67, .slice rb ly.length rd), (70, .int .i64 (slope * (l.getD (i).toNat 0)))]) (by kernel_rfl) ?_
                          exact W16 w40 S53
                        · skip
                          refine WO.set #[true, true, true, false, false, true, false, true, true, true, true, false, false, false, false, false] (by kernel_rfl) ?_
                          refine WO.newSlice S53 71 1 [.int .i64 (slope * (l.getD (i).toNat 0))] 3 (by kernel_rfl) ?_
                          intro bd10 w42 S55
                          refine WB.mk (S55.sub (.cons _ (.cons _ (.cons _ (.cons _ (.slnil)))))) ?_
                          refine WA.weaken (env' := [(0, .slice la len cap), (1, .int .i64 slope), (2, .int .i64 x), (7, .pointer (some ⟨b1, 0, none⟩)), (35, .slice la len cap), (36, .int .i64 (len : Int)), (37, .int .i64 i), (62, .slice ra lx.length rc), (63, .int .i64 (l.getD (i).toNat 0)), (66, .pointer (some ⟨b1, 1, none⟩)), (71, .slice (some ⟨bd10, 0, none⟩) 1 1)]) (by kernel_rfl) ?_
                          exact W13 bd10 w42 S55
                      have W20 : ∀ (bd3 : Nat) (w43 : World), Sep w [box bd3 [.int .i64 (l.getD (i).toNat 0)] 3, rowOf encI ra rc 3 1 lx, rowOf encI rb rd 3 1 ly, box b1 [.slice ra lx.length rc, .slice rb ly.length rd] 24] w43 → WA Tryd.prog 9 158 R K9_21 (fun w_ => Sep w [] w_) 9 #[true, false, true, true, false, true, false, true, true, true, false, false, false, false, false, false] [(0, .slice la len cap), (1, .int .i64 slope), (2, .int .i64 x), (7, .pointer (some ⟨b1, 0, none⟩)), (35, .slice la len cap), (36, .int .i64 (len : Int)), (37, .int .i64 i), (61, .pointer (some ⟨b1, 0, none⟩)), (64, .slice (some ⟨bd3, 0, none⟩) 1 1), (66, .pointer (some ⟨b1, 1, none⟩)), (70, .int .i64 (slope * (l.getD (i).toNat 0)))] w43 := by
                        intro bd3 w43 S56
                        refine WA.all [1, 6, 10] (by kernel_rfl) rfl ⟨?_, ?_, ?_, trivial⟩
                        · skip
                          refine WO.set #[true, true, true, true, false, true, false, true, true, true, false, false, false, false, false, false] (by kernel_rfl) ?_
                          refine WO.ok (OK.ldBox S56 3 62 22 0 (.slice ra lx.length rc) (by kernel_rfl) rfl (by kernel_rfl)) ?_
                          refine WB.mk (S56.sub (.cons _ (.cons _ (.cons _ (.cons _ (.slnil)))))) ?_
                          refine WA.weaken (env' := [(0, .slice la len cap), (1, .int .i64 slope), (2, .int .i64 x), (7, .pointer (some ⟨b1, 0, none⟩)), (35, .slice la len cap), (36, .int .i64 (len : Int)), (37, .int .i64 i), (62, .slice ra lx.length rc), (64, .slice (some ⟨bd3, 0, none⟩) 1 1), (66, .pointer (some ⟨b1, 1, none⟩)), (70, .int .i64 (slope * (l.getD (i).toNat 0)))]) (by kernel_rfl) ?_
                          exact W18 bd3 w43 S56
                        · skip
                          refine WO.set #[true, false, true, true, false, true, true, true, true, true, false, false, false, false, false, false] (by kernel_rfl) ?_
                          refine WO.ok (OK.ldBox S56 3 67 22 1 (.slice rb ly.length rd) (by kernel_rfl) rfl (by kernel_rfl)) ?_
                          refine WB.mk (S56.sub (.cons _ (.cons _ (.cons _ (.cons _ (.slnil)))))) ?_
                          refine WA.weaken (env' := [(0, .slice la len cap), (1, .int .i64 slope), (2, .int .i64 x), (7, .pointer (some ⟨b1, 0, none⟩)), (35, .slice la len cap), (36, .int .i64 (len : Int)), (37, .int .i64 i), (61, .pointer (some ⟨b1, 0, none⟩)), (64, .slice (some ⟨bd3, 0, none⟩) 1 1), (67, .slice rb ly.length rd), (70, .int .i64 (slope * (l.getD (i).toNat 0)))]) (by kernel_rfl) ?_
                          exact W17 bd3 w43 S56
                        · skip
                          refine WO.set #[true, false, true, true, false, true, false, true, true, true, true, false, false, false, false, false] (by kernel_rfl) ?_
                          refine WO.newSlice S56 71 1 [.int .i64 (slope * (l.getD (i).toNat 0))] 3 (by kernel_rfl) ?_
                          intro bd10 w44 S57
                          refine WB.mk (S57.sub (.cons _ (.cons _ (.cons _ (.cons _ (.cons _ (.slnil))))))) ?_
                          refine WA.weaken (env' := [(0, .slice la len cap), (1, .int .i64 slope), (2, .int .i64 x), (7, .pointer (some ⟨b1, 0, none⟩)), (35, .slice la len cap), (36, .int .i64 (len : Int)), (37, .int .i64 i), (61, .pointer (some ⟨b1, 0, none⟩)), (64, .slice (some ⟨bd3, 0, none⟩) 1 1), (66, .pointer (some ⟨b1, 1, none⟩)), (71, .slice (some ⟨bd10, 0, none⟩) 1 1)]) (by kernel_rfl) ?_
                          have S58 : Sep w [box bd10 [.int .i64 (slope * (l.getD (i).toNat 0))] 3, box bd3 [.int .i64 (l.getD (i).toNat 0)] 3, rowOf encI ra rc 3 1 lx, rowOf encI rb rd 3 1 ly, box b1 [.slice ra lx.length rc, .slice rb ly.length rd] 24] w44 := S57.front 0 rfl
                          have S59 : Sep w [box bd3 [.int .i64 (l.getD (i).toNat 0)] 3, box bd10 [.int .i64 (slope * (l.getD (i).toNat 0))] 3, rowOf encI ra rc 3 1 lx, rowOf encI rb rd 3 1 ly, box b1 [.slice ra lx.length rc, .slice rb ly.length rd] 24] w44 := S58.front 1 rfl
                          exact W14 bd10 bd3 w44 S59
                      have W21 : ∀ (w45 : World), Sep w [rowOf encI ra rc 3 1 lx, rowOf encI rb rd 3 1 ly, box b1 [.slice ra lx.length rc, .slice rb ly.length rd] 24] w45 → WA Tryd.prog 9 158 R K9_21 (fun w_ => Sep w [] w_) 9 #[true, false, true, false, false, true, true, true, true, true, false, false, false, false, false, false] [(0, .slice la len cap), (1, .int .i64 slope), (2, .int .i64 x), (7, .pointer (some ⟨b1, 0, none⟩)), (35, .slice la len cap), (36, .int .i64 (len : Int)), (37, .int .i64 i), (61, .pointer (some ⟨b1, 0, none⟩)), (63, .int .i64 (l.getD (i).toNat 0)), (67, .slice rb ly.length rd), (70, .int .i64 (slope * (l.getD (i).toNat 0)))] w45 := by
                        intro w45 S60
                        refine WA.all [1, 3, 10] (by kernel_rfl) rfl ⟨?_, ?_, ?_, trivial⟩
                        · skip
                          refine WO.set #[true, true, true, false, false, true, true, true, true, true, false, false, false, false, false, false] (by kernel_rfl) ?_
                          refine WO.ok (OK.ldBox S60 2 62 22 0 (.slice ra lx.length rc) (by kernel_rfl) rfl (by kernel_rfl)) ?_
                          refine WB.mk (S60.sub (.cons _ (.cons _ (.cons _ (.slnil))))) ?_
                          refine WA.weaken (env' := [(0, .slice la len cap), (1, .int .i64 slope), (2, .int .i64 x), (7, .pointer (some ⟨b1, 0, none⟩)), (35, .slice la len cap), (36, .int .i64 (len : Int)), (37, .int .i64 i), (62, .slice ra lx.length rc), (63, .int .i64 (l.getD (i).toNat 0)), (67, .slice rb ly.length rd), (70, .int .i64 (slope * (l.getD (i).toNat 0)))]) (by kernel_rfl) ?_
                          exact W16 w45 S60
                        · skip
                          refine WO.set #[true, false, true, true, false, true, true, true, true, true, false, false, false, false, false, false] (by kernel_rfl) ?_
                          refine WO.newSlice S60 64 1 [.int .i64 (l.getD (i).toNat 0)] 3 (by kernel_rfl) ?_
                          intro bd3 w46 S61
                          refine WB.mk (S61.sub (.cons _ (.cons _ (.cons _ (.cons _ (.slnil)))))) ?_
                          refine WA.weaken (env' := [(0, .slice la len cap), (1, .int .i64 slope), (2, .int .i64 x), (7, .pointer (some ⟨b1, 0, none⟩)), (35, .slice la len cap), (36, .int .i64 (len : Int)), (37, .int .i64 i), (61, .pointer (some ⟨b1, 0, none⟩)), (64, .slice (some ⟨bd3, 0, none⟩) 1 1), (67, .slice rb ly.length rd), (70, .int .i64 (slope * (l.getD (i).toNat 0)))]) (by kernel_rfl) ?_
                          exact W17 bd3 w46 S61
                        · skip
                          refine WO.set #[true, false, true, false, false, true, true, true, true, true, true, false, false, false, false, false] (by kernel_rfl) ?_
                          refine WO.newSlice S60 71 1 [.int .i64 (slope * (l.getD (i).toNat 0))] 3 (by kernel_rfl) ?_
                          intro bd10 w47 S62
                          refine WB.mk (S62.sub (.cons _ (.cons _ (.cons _ (.cons _ (.slnil)))))) ?_
                          refine WA.weaken (env' := [(0, .slice la len cap), (1, .int .i64 slope), (2, .int .i64 x), (7, .pointer (some ⟨b1, 0, none⟩)), (35, .slice la len cap), (36, .int .i64 (len : Int)), (37, .int .i64 i), (61, .pointer (some ⟨b1, 0, none⟩)), (63, .int .i64 (l.getD (i).toNat 0)), (67, .slice rb ly.length rd), (71, .slice (some ⟨bd10, 0, none⟩) 1 1)]) (by kernel_rfl) ?_
                          exact W15 bd10 w47 S62
                      have W22 : ∀ (bd10 : Nat) (w48 : World), Sep w [box bd10 [.int .i64 (slope * (l.getD (i).toNat 0))] 3, rowOf encI ra rc 3 1 lx, rowOf encI rb rd 3 1 ly, box b1 [.slice ra lx.length rc, .slice rb ly.length rd] 24] w48 → WA Tryd.prog 9 158 R K9_21 (fun w_ => Sep w [] w_) 9 #[true, false, true, false, false, true, false, true, true, true, true, false, false, false, false, false] [(0, .slice la len cap), (1, .int .i64 slope), (2, .int .i64 x), (7, .pointer (some ⟨b1, 0, none⟩)), (35, .slice la len cap), (36, .int .i64 (len : Int)), (37, .int .i64 i), (61, .pointer (some ⟨b1, 0, none⟩)), (63, .int .i64 (l.getD (i).toNat 0)), (66, .pointer (some ⟨b1, 1, none⟩)), (71, .slice (some ⟨bd10, 0, none⟩) 1 1)] w48 := by
                        intro bd10 w48 S63
                        refine WA.all [1, 3, 6] (by kernel_rfl) rfl ⟨?_, ?_, ?_, trivial⟩
                        · skip
                          refine WO.set #[true, true, true, false, false, true, false, true, true, true, true, false, false, false, false, false] (by kernel_rfl) ?_
                          refine WO.ok (OK.ldBox S63 3 62 22 0 (.slice ra lx.length rc) (by kernel_rfl) rfl (by kernel_rfl)) ?_
                          refine WB.mk (S63.sub (.cons _ (.cons _ (.cons _ (.cons _ (.slnil)))))) ?_
                          refine WA.weaken (env' := [(0, .slice la len cap), (1, .int .i64 slope), (2, .int .i64 x), (7, .pointer (some ⟨b1, 0, none⟩)), (35, .slice la len cap), (36, .int .i64 (len : Int)), (37, .int .i64 i), (62, .slice ra lx.length rc), (63, .int .i64 (l.getD (i).toNat 0)), (66, .pointer (some ⟨b1, 1, none⟩)), (71, .slice (some ⟨bd10, 0, none⟩) 1 1)]) (by kernel_rfl) ?_
                          exact W13 bd10 w48 S63
                        · skip
                          refine WO.set #[true, false, true, true, false, true, false, true, true, true, true, false, false, false, false, false] (by kernel_rfl) ?_
                          refine WO.newSlice S63 64 1 [.int .i64 (l.getD (i).toNat 0)] 3 (by kernel_rfl) ?_
                          intro bd3 w49 S64
                          refine WB.mk (S64.sub (.cons _ (.cons _ (.cons _ (.cons _ (.cons _ (.slnil))))))) ?_
                          refine WA.weaken (env' := [(0, .slice la len cap), (1, .int .i64 slope), (2, .int .i64 x), (7, .pointer (some ⟨b1, 0, none⟩)), (35, .slice la len cap), (36, .int .i64 (len : Int)), (37, .int .i64 i), (61, .pointer (some ⟨b1, 0, none⟩)), (64, .slice (some ⟨bd3, 0, none⟩) 1 1), (66, .pointer (some ⟨b1, 1, none⟩)), (71, .slice (some ⟨bd10, 0, none⟩) 1 1)]) (by kernel_rfl) ?_
                          exact W14 bd10 bd3 w49 S64
                        · skip
                          refine WO.set #[true, false, true, false, false, true, true, true, true, true, true, false, false, false, false, false] (by kernel_rfl) ?_
                          refine WO.ok (OK.ldBox S63 3 67 22 1 (.slice rb ly.length rd) (by kernel_rfl) rfl (by kernel_rfl)) ?_
                          refine WB.mk (S63.sub (.cons _ (.cons _ (.cons _ (.cons _ (.slnil)))))) ?_
                          refine WA.weaken (env' := [(0, .slice la len cap), (1, .int .i64 slope), (2, .int .i64 x), (7, .pointer (some ⟨b1, 0, none⟩)), (35, .slice la len cap), (36, .int .i64 (len : Int)), (37, .int .i64 i), (61, .pointer (some ⟨b1, 0, none⟩)), (63, .int .i64 (l.getD (i).toNat 0)), (67, .slice rb ly.length rd), (71, .slice (some ⟨bd10, 0, none⟩) 1 1)]) (by kernel_rfl) ?_
                          exact W15 bd10 w48 S63
                      have W23 : ∀ (w50 : World), Sep w [rowOf encI ra rc 3 1 lx, rowOf encI rb rd 3 1 ly, box b1 [.slice ra lx.length rc, .slice rb ly.length rd] 24] w50 → WA Tryd.prog 9 158 R K9_21 (fun w_ => Sep w [] w_) 10 #[true, false, true, false, false, true, false, true, true, true, false, false, false, false, false, false] [(0, .slice la len cap), (1, .int .i64 slope), (2, .int .i64 x), (7, .pointer (some ⟨b1, 0, none⟩)), (35, .slice la len cap), (36, .int .i64 (len : Int)), (37, .int .i64 i), (61, .pointer (some ⟨b1, 0, none⟩)), (63, .int .i64 (l.getD (i).toNat 0)), (66, .pointer (some ⟨b1, 1, none⟩)), (70, .int .i64 (slope * (l.getD (i).toNat 0)))] w50 := by
                        intro w50 S65
                        refine WA.all [1, 3, 6, 10] (by kernel_rfl) rfl ⟨?_, ?_, ?_, ?_, trivial⟩
                        · skip
                          refine WO.set #[true, true, true, false, false, true, false, true, true, true, false, false, false, false, false, false] (by kernel_rfl) ?_
                          refine WO.ok (OK.ldBox S65 2 62 22 0 (.slice ra lx.length rc) (by kernel_rfl) rfl (by kernel_rfl)) ?_
                          refine WB.mk (S65.sub (.cons _ (.cons _ (.cons _ (.slnil))))) ?_
                          refine WA.weaken (env' := [(0, .slice la len cap), (1, .int .i64 slope), (2, .int .i64 x), (7, .pointer (some ⟨b1, 0, none⟩)), (35, .slice la len cap), (36, .int .i64 (len : Int)), (37, .int .i64 i), (62, .slice ra lx.length rc), (63, .int .i64 (l.getD (i).toNat 0)), (66, .pointer (some ⟨b1, 1, none⟩)), (70, .int .i64 (slope * (l.getD (i).toNat 0)))]) (by kernel_rfl) ?_
                          exact W19 w50 S65
                        · skip
                          refine WO.set #[true, false, true, true, false, true, false, true, true, true, false, false, false, false, false, false] (by kernel_rfl) ?_
                          refine WO.newSlice S65 64 1 [.int .i64 (l.getD (i).toNat 0)] 3 (by kernel_rfl) ?_
                          intro bd3 w51 S66
                          refine WB.mk (S66.sub (.cons _ (.cons _ (.cons _ (.cons _ (.slnil)))))) ?_
                          refine WA.weaken (env' := [(0, .slice la len cap), (1, .int .i64 slope), (2, .int .i64 x), (7, .pointer (some ⟨b1, 0, none⟩)), (35, .slice la len cap), (36, .int .i64 (len : Int)), (37, .int .i64 i), (61, .pointer (some ⟨b1, 0, none⟩)), (64, .slice (some ⟨bd3, 0, none⟩) 1 1), (66, .pointer (some ⟨b1, 1, none⟩)), (70, .int .i64 (slope * (l.getD (i).toNat 0)))]) (by kernel_rfl) ?_
                          exact W20 bd3 w51 S66
                        · skip
                          refine WO.set #[true, false, true, false, false, true, true, true, true, true, false, false, false, false, false, false] (by kernel_rfl) ?_
                          refine WO.ok (OK.ldBox S65 2 67 22 1 (.slice rb ly.length rd) (by kernel_rfl) rfl (by kernel_rfl)) ?_
                          refine WB.mk (S65.sub (.cons _ (.cons _ (.cons _ (.slnil))))) ?_
                          refine WA.weaken (env' := [(0, .slice la len cap), (1, .int .i64 slope), (2, .int .i64 x), (7, .pointer (some ⟨b1, 0, none⟩)), (35, .slice la len cap), (36, .int .i64 (len : Int)), (37, .int .i64 i), (61, .pointer (some ⟨b1, 0, none⟩)), (63, .int .i64 (l.getD (i).toNat 0)), (67, .slice rb ly.length rd), (70, .int .i64 (slope * (l.getD (i).toNat 0)))]) (by kernel_rfl) ?_
                          exact W21 w50 S65
                        · skip
                          refine WO.set #[true, false, true, false, false, true, false, true, true, true, true, false, false, false, false, false] (by kernel_rfl) ?_
                          refine WO.newSlice S65 71 1 [.int .i64 (slope * (l.getD (i).toNat 0))] 3 (by kernel_rfl) ?_
                          intro bd10 w52 S67
                          refine WB.mk (S67.sub (.cons _ (.cons _ (.cons _ (.cons _ (.slnil)))))) ?_
                          refine WA.weaken (env' := [(0, .slice la len cap), (1, .int .i64 slope), (2, .int .i64 x), (7, .pointer (some ⟨b1, 0, none⟩)), (35, .slice la len cap), (36, .int .i64 (len : Int)), (37, .int .i64 i), (61, .pointer (some ⟨b1, 0, none⟩)), (63, .int .i64 (l.getD (i).toNat 0)), (66, .pointer (some ⟨b1, 1, none⟩)), (71, .slice (some ⟨bd10, 0, none⟩) 1 1)]) (by kernel_rfl) ?_
                          exact W22 bd10 w52 S67
                      refine J.drawAny (fun w_ => Sep w [] w_) S6 16 #[false, false, false, false, false, false, false, false, false, false, false, false, false, false, false, false] Tryd.mixed (by kernel_rfl) (by kernel_rfl) (by kernel_rfl) ?_
                      intro w53 S68
                      refine WB.mk (S68.sub (.cons _ (.cons _ (.cons _ (.slnil))))) ?_
                      refine WA.take 0 61 (.pointer (some ⟨b1, 0, none⟩)) #[true, false, false, false, false, false, false, false, false, false, false, false, false, false, false, false] (by kernel_rfl) (by kernel_rfl) (by kernel_rfl) (fun _ _ => by kernel_rfl) (by kernel_rfl) ?_
                      refine WA.take 2 63 (.int .i64 (l.getD (i).toNat 0)) #[true, false, true, false, false, false, false, false, false, false, false, false, false, false, false, false] (by kernel_rfl) (by kernel_rfl) (by kernel_rfl) (fun _ _ => by kernel_rfl) (by kernel_rfl) ?_
                      refine WA.take 5 66 (.pointer (some ⟨b1, 1, none⟩)) #[true, false, true, false, false, true, false, false, false, false, false, false, false, false, false, false] (by kernel_rfl) (by kernel_rfl) (by kernel_rfl) (fun _ _ => by kernel_rfl) (by kernel_rfl) ?_
                      refine WA.take 7 68 (.int .i64 slope) #[true, false, true, false, false, true, false, true, false, false, false, false, false, false, false, false] (by kernel_rfl) (by kernel_rfl) (by kernel_rfl) (fun _ _ => by kernel_rfl) (by kernel_rfl) ?_
                      refine WA.take 8 69 (.int .i64 (l.getD (i).toNat 0)) #[true, false, true, false, false, true, false, true, true, false, false, false, false, false, false, false] (by kernel_rfl) (by kernel_rfl) (by kernel_rfl) (fun _ _ => by kernel_rfl) (by kernel_rfl) ?_
                      refine WA.take 9 70 (.int .i64 (IntKind.wrap .i64 (slope * (l.getD (i).toNat 0)))) #[true, false, true, false, false, true, false, true, true, true, false, false, false, false, false, false] (by kernel_rfl) (by kernel_rfl) (by kernel_rfl) (fun _ _ => by kernel_rfl) (by kernel_rfl) ?_
                      have hpk := prod200 (s := slope) (k := l.getD (i).toNat 0) (by omega) (by omega)
                      refine WA.head (.int .i64 (slope * (l.getD (i).toNat 0))) (congrArg (Value.int .i64) (IntWalk.i64_in _ (by omega))) ?_
                      refine WA.weaken (env' := [(0, .slice la len cap), (1, .int .i64 slope), (2, .int .i64 x), (7, .pointer (some ⟨b1, 0, none⟩)), (35, .slice la len cap), (36, .int .i64 (len : Int)), (37, .int .i64 i), (61, .pointer (some ⟨b1, 0, none⟩)), (63, .int .i64 (l.getD (i).toNat 0)), (66, .pointer (some ⟨b1, 1, none⟩)), (70, .int .i64 (slope * (l.getD (i).toNat 0)))]) (by kernel_rfl) ?_
                      exact W23 w53 S68
                  · skip
                    refine J.head (.bool false) (congrArg Value.bool (decide_eq_false fk8)) ?_
                    refine J.run 12 K9_23 [(9, .int .i64 (l.getD (i).toNat 0)), (37, .int .i64 i), (36, .int .i64 (len : Int)), (35, .slice la len cap), (7, .pointer (some ⟨b1, 0, none⟩)), (0, .slice la len cap), (1, .int .i64 slope), (2, .int .i64 x)] w4 (by kernel_rfl) ?_
                    have W24 : ∀ (ad11 : Option Addr) (cd11 : Nat) (ad4 : Option Addr) (cd4 : Nat) (w54 : World), Sep w [rowOf encI ad4 cd4 3 1 (lx ++ [l.getD (i).toNat 0]), rowOf encI ad11 cd11 3 1 (ly ++ [slope * (l.getD (i).toNat 0)]), box b1 [.slice ad4 ((lx ++ [l.getD (i).toNat 0]).length) cd4, .slice ad11 ((ly ++ [slope * (l.getD (i).toNat 0)]).length) cd11] 24] w54 → WA Tryd.prog 9 158 R K9_23 (fun w_ => Sep w [] w_) 0 #[true, true, true, true, true, true, true, true, true, true, true, true, true, true, true, true] [(0, .slice la len cap), (1, .int .i64 slope), (2, .int .i64 x), (7, .pointer (some ⟨b1, 0, none⟩)), (35, .slice la len cap), (36, .int .i64 (len : Int)), (37, .int .i64 i)] w54 := by
                      intro ad11 cd11 ad4 cd4 w54 S69
                      refine WA.done (by kernel_rfl) ?_
                      refine J.run 0 (rRest K9_23) [(0, .slice la len cap), (1, .int .i64 slope), (2, .int .i64 x), (7, .pointer (some ⟨b1, 0, none⟩)), (35, .slice la len cap), (36, .int .i64 (len : Int)), (37, .int .i64 i)] w54 (by kernel_rfl) ?_
                      refine J.run 3 K9_24 [(75, .int .i64 (IntKind.wrap .i64 (i + 1))), (0, .slice la len cap), (1, .int .i64 slope), (2, .int .i64 x), (7, .pointer (some ⟨b1, 0, none⟩)), (35, .slice la len cap), (36, .int .i64 (len : Int))] w54 (by kernel_rfl) ?_
                      refine J.head (.int .i64 (i + 1)) (congrArg (Value.int .i64) (IntWalk.i64_in _ (by omega))) ?_
                      refine J.run 3 K9_10 [(37, .int .i64 (i + 1)), (0, .slice la len cap), (1, .int .i64 slope), (2, .int .i64 x), (7, .pointer (some ⟨b1, 0, none⟩)), (35, .slice la len cap), (36, .int .i64 (len : Int))] w54 (by kernel_rfl) ?_
                      refine J.run 0 K9_10 [(37, .int .i64 (i + 1)), (36, .int .i64 (len : Int)), (35, .slice la len cap), (7, .pointer (some ⟨b1, 0, none⟩)), (0, .slice la len cap), (1, .int .i64 slope), (2, .int .i64 x)] w54 (by kernel_rfl) ?_
                      exact ih1 _ (show ((len : Int) - (i + 1)).toNat < mm1 from by omega) ad4 cd4 (lx ++ [l.getD (i).toNat 0]) ad11 cd11 (ly ++ [slope * (l.getD (i).toNat 0)]) (i + 1) w54 (by omega) (by omega) (take_step h0 (by omega) hlx) (cv_step (f := fun k => slope * k) h0 (by omega) hly) (all_step (q := fun j => (-1048576 ≤ l.getD j 0 ∧ l.getD j 0 ≤ 1048576) ∧ (0 < j → l.getD (j - 1) 0 < l.getD j 0)) h0 hq ⟨by omega, fun hj_ => by rw [show i.toNat - 1 = (i - 1).toNat by omega]; omega⟩) (fun y hy => by rcases List.mem_append.1 hy with hy | hy; exact hqx y hy; (simp only [List.mem_singleton] at hy; subst hy; omega)) (fun y hy => by rcases List.mem_append.1 hy with hy | hy; exact hqy y hy; (simp only [List.mem_singleton] at hy; subst hy; exact prod200 (by omega) (by omega))) S69 rfl
                    have W25 : ∀ (ad11 : Option Addr) (cd11 : Nat) (ad4 : Option Addr) (cd4 : Nat) (w55 : World), Sep w [rowOf encI ad4 cd4 3 1 (lx ++ [l.getD (i).toNat 0]), rowOf encI ad11 cd11 3 1 (ly ++ [slope * (l.getD (i).toNat 0)]), box b1 [.slice ad4 ((lx ++ [l.getD (i).toNat 0]).length) cd4, .slice rb ly.length rd] 24] w55 → WA Tryd.prog 9 158 R K9_23 (fun w_ => Sep w [] w_) 1 #[true, true, true, true, true, true, true, true, true, true, true, true, true, true, true, false] [(0, .slice la len cap), (1, .int .i64 slope), (2, .int .i64 x), (7, .pointer (some ⟨b1, 0, none⟩)), (35, .slice la len cap), (36, .int .i64 (len : Int)), (37, .int .i64 i), (72, .slice ad11 ((ly ++ [slope * (l.getD (i).toNat 0)]).length) cd11), (74, .pointer (some ⟨b1, 1, none⟩))] w55 := by
                      intro ad11 cd11 ad4 cd4 w55 S70
                      refine WA.all [15] (by kernel_rfl) rfl ⟨?_, trivial⟩
                      · skip
                        refine WO.set #[true, true, true, true, true, true, true, true, true, true, true, true, true, true, true, true] (by kernel_rfl) ?_
                        refine WO.stBox S70 2 22 1 (.slice ad11 ((ly ++ [slope * (l.getD (i).toNat 0)]).length) cd11) [.slice ad4 ((lx ++ [l.getD (i).toNat 0]).length) cd4, .slice ad11 ((ly ++ [slope * (l.getD (i).toNat 0)]).length) cd11] [rowOf encI ad4 cd4 3 1 (lx ++ [l.getD (i).toNat 0]), rowOf encI ad11 cd11 3 1 (ly ++ [slope * (l.getD (i).toNat 0)]), box b1 [.slice ad4 ((lx ++ [l.getD (i).toNat 0]).length) cd4, .slice ad11 ((ly ++ [slope * (l.getD (i).toNat 0)]).length) cd11] 24] (by kernel_rfl) rfl (by kernel_rfl) (by kernel_rfl) rfl ?_
                        intro w56 S71
                        refine WB.mk (S71.sub (.cons _ (.cons _ (.cons _ (.slnil))))) ?_
                        refine WA.weaken (env' := [(0, .slice la len cap), (1, .int .i64 slope), (2, .int .i64 x), (7, .pointer (some ⟨b1, 0, none⟩)), (35, .slice la len cap), (36, .int .i64 (len : Int)), (37, .int .i64 i)]) (by kernel_rfl) ?_
                        exact W24 ad11 cd11 ad4 cd4 w56 S71
                    have W26 : ∀ (ad11 : Option Addr) (cd11 : Nat) (ad4 : Option Addr) (cd4 : Nat) (w57 : World), Sep w [rowOf encI ad4 cd4 3 1 (lx ++ [l.getD (i).toNat 0]), rowOf encI ad11 cd11 3 1 (ly ++ [slope * (l.getD (i).toNat 0)]), box b1 [.slice ra lx.length rc, .slice rb ly.length rd] 24] w57 → WA Tryd.prog 9 158 R K9_23 (fun w_ => Sep w [] w_) 3 #[true, true, true, true, true, true, true, true, true, true, true, true, true, false, false, false] [(0, .slice la len cap), (1, .int .i64 slope), (2, .int .i64 x), (7, .pointer (some ⟨b1, 0, none⟩)), (35, .slice la len cap), (36, .int .i64 (len : Int)), (37, .int .i64 i), (65, .slice ad4 ((lx ++ [l.getD (i).toNat 0]).length) cd4), (72, .slice ad11 ((ly ++ [slope * (l.getD (i).toNat 0)]).length) cd11), (73, .pointer (some ⟨b1, 0, none⟩))] w57 := by
                      intro ad11 cd11 ad4 cd4 w57 S72
                      refine WA.all [13] (by kernel_rfl) rfl ⟨?_, trivial⟩
                      · skip
                        refine WO.set #[true, true, true, true, true, true, true, true, true, true, true, true, true, true, false, false] (by kernel_rfl) ?_
                        refine WO.stBox S72 2 22 0 (.slice ad4 ((lx ++ [l.getD (i).toNat 0]).length) cd4) [.slice ad4 ((lx ++ [l.getD (i).toNat 0]).length) cd4, .slice rb ly.length rd] [rowOf encI ad4 cd4 3 1 (lx ++ [l.getD (i).toNat 0]), rowOf encI ad11 cd11 3 1 (ly ++ [slope * (l.getD (i).toNat 0)]), box b1 [.slice ad4 ((lx ++ [l.getD (i).toNat 0]).length) cd4, .slice rb ly.length rd] 24] (by kernel_rfl) rfl (by kernel_rfl) (by kernel_rfl) rfl ?_
                        intro w58 S73
                        refine WB.mk (S73.sub (.cons _ (.cons _ (.cons _ (.slnil))))) ?_
                        refine WA.take 14 74 (.pointer (some ⟨b1, 1, none⟩)) #[true, true, true, true, true, true, true, true, true, true, true, true, true, true, true, false] (by kernel_rfl) (by kernel_rfl) (by kernel_rfl) (fun _ _ => by kernel_rfl) (by kernel_rfl) ?_
                        refine WA.weaken (env' := [(0, .slice la len cap), (1, .int .i64 slope), (2, .int .i64 x), (7, .pointer (some ⟨b1, 0, none⟩)), (35, .slice la len cap), (36, .int .i64 (len : Int)), (37, .int .i64 i), (72, .slice ad11 ((ly ++ [slope * (l.getD (i).toNat 0)]).length) cd11), (74, .pointer (some ⟨b1, 1, none⟩))]) (by kernel_rfl) ?_
                        exact W25 ad11 cd11 ad4 cd4 w58 S73
                    have W27 : ∀ (ad4 : Option Addr) (cd4 : Nat) (bd10 : Nat) (w59 : World), Sep w [box bd10 [.int .i64 (slope * (l.getD (i).toNat 0))] 3, rowOf encI ad4 cd4 3 1 (lx ++ [l.getD (i).toNat 0]), rowOf encI rb rd 3 1 ly, box b1 [.slice ra lx.length rc, .slice rb ly.length rd] 24] w59 → WA Tryd.prog 9 158 R K9_23 (fun w_ => Sep w [] w_) 4 #[true, true, true, true, true, true, true, true, true, true, true, false, true, false, false, false] [(0, .slice la len cap), (1, .int .i64 slope), (2, .int .i64 x), (7, .pointer (some ⟨b1, 0, none⟩)), (35, .slice la len cap), (36, .int .i64 (len : Int)), (37, .int .i64 i), (65, .slice ad4 ((lx ++ [l.getD (i).toNat 0]).length) cd4), (67, .slice rb ly.length rd), (71, .slice (some ⟨bd10, 0, none⟩) 1 1), (73, .pointer (some ⟨b1, 0, none⟩))] w59 := by
                      intro ad4 cd4 bd10 w59 S74
                      refine WA.all [11] (by kernel_rfl) rfl ⟨?_, trivial⟩
                      · skip
                        refine WO.set #[true, true, true, true, true, true, true, true, true, true, true, true, true, false, false, false] (by kernel_rfl) ?_
                        refine WO.append encI S74 2 ly (slope * (l.getD (i).toNat 0)) 72 22 (.int .i64 0) 8 ⟨bd10, 0, none⟩ 1 rfl (by kernel_rfl) (by kernel_rfl) (by kernel_rfl) (by kernel_rfl) (by decide) (box_cells (S74.nth 0 rfl)) (by kernel_rfl) (by kernel_rfl) (⟨by omega, by omega⟩) ?_
                        intro ad11 cd11 w60 S75
                        replace S75 : Sep w [box bd10 [.int .i64 (slope * (l.getD (i).toNat 0))] 3, rowOf encI ad4 cd4 3 1 (lx ++ [l.getD (i).toNat 0]), rowOf encI ad11 cd11 3 1 (ly ++ [slope * (l.getD (i).toNat 0)]), box b1 [.slice ra lx.length rc, .slice rb ly.length rd] 24] w60 := S75
                        have S76 : Sep w [rowOf encI ad4 cd4 3 1 (lx ++ [l.getD (i).toNat 0]), rowOf encI ad11 cd11 3 1 (ly ++ [slope * (l.getD (i).toNat 0)]), box b1 [.slice ra lx.length rc, .slice rb ly.length rd] 24] w60 := S75.erase 0
                        clear S75
                        refine WB.mk (S76.sub (.cons _ (.cons _ (.cons _ (.slnil))))) ?_
                        refine WA.weaken (env' := [(0, .slice la len cap), (1, .int .i64 slope), (2, .int .i64 x), (7, .pointer (some ⟨b1, 0, none⟩)), (35, .slice la len cap), (36, .int .i64 (len : Int)), (37, .int .i64 i), (65, .slice ad4 ((lx ++ [l.getD (i).toNat 0]).length) cd4), (72, .slice ad11 ((ly ++ [slope * (l.getD (i).toNat 0)]).length) cd11), (73, .pointer (some ⟨b1, 0, none⟩))]) (by kernel_rfl) ?_
                        exact W26 ad11 cd11 ad4 cd4 w60 S76
                    have W28 : ∀ (ad4 : Option Addr) (cd4 : Nat) (w61 : World), Sep w [rowOf encI ad4 cd4 3 1 (lx ++ [l.getD (i).toNat 0]), rowOf encI rb rd 3 1 ly, box b1 [.slice ra lx.length rc, .slice rb ly.length rd] 24] w61 → WA Tryd.prog 9 158 R K9_23 (fun w_ => Sep w [] w_) 5 #[true, true, true, true, true, true, true, true, true, true, false, false, true, false, false, false] [(0, .slice la len cap), (1, .int .i64 slope), (2, .int .i64 x), (7, .pointer (some ⟨b1, 0, none⟩)), (35, .slice la len cap), (36, .int .i64 (len : Int)), (37, .int .i64 i), (65, .slice ad4 ((lx ++ [l.getD (i).toNat 0]).length) cd4), (67, .slice rb ly.length rd), (70, .int .i64 (slope * (l.getD (i).toNat 0))), (73, .pointer (some ⟨b1, 0, none⟩))] w61 := by
                      intro ad4 cd4 w61 S77
                      refine WA.all [10] (by kernel_rfl) rfl ⟨?_, trivial⟩
                      · skip
                        refine WO.set #[true, true, true, true, true, true, true, true, true, true, true, false, true, false, false, false] (by kernel_rfl) ?_
                        refine WO.newSlice S77 71 1 [.int .i64 (slope * (l.getD (i).toNat 0))] 3 (by kernel_rfl) ?_
                        intro bd10 w62 S78
                        refine WB.mk (S78.sub (.cons _ (.cons _ (.cons _ (.cons _ (.slnil)))))) ?_
                        refine WA.weaken (env' := [(0, .slice la len cap), (1, .int .i64 slope), (2, .int .i64 x), (7, .pointer (some ⟨b1, 0, none⟩)), (35, .slice la len cap), (36, .int .i64 (len : Int)), (37, .int .i64 i), (65, .slice ad4 ((lx ++ [l.getD (i).toNat 0]).length) cd4), (67, .slice rb ly.length rd), (71, .slice (some ⟨bd10, 0, none⟩) 1 1), (73, .pointer (some ⟨b1, 0, none⟩))]) (by kernel_rfl) ?_
                        exact W27 ad4 cd4 bd10 w62 S78
                    have W29 : ∀ (bd10 : Nat) (bd3 : Nat) (w63 : World), Sep w [box bd3 [.int .i64 (l.getD (i).toNat 0)] 3, box bd10 [.int .i64 (slope * (l.getD (i).toNat 0))] 3, rowOf encI ra rc 3 1 lx, rowOf encI rb rd 3 1 ly, box b1 [.slice ra lx.length rc, .slice rb ly.length rd] 24] w63 → WA Tryd.prog 9 158 R K9_23 (fun w_ => Sep w [] w_) 6 #[true, true, true, true, false, true, true, true, true, true, true, false, false, false, false, false] [(0, .slice la len cap), (1, .int .i64 slope), (2, .int .i64 x), (7, .pointer (some ⟨b1, 0, none⟩)), (35, .slice la len cap), (36, .int .i64 (len : Int)), (37, .int .i64 i), (62, .slice ra lx.length rc), (64, .slice (some ⟨bd3, 0, none⟩) 1 1), (67, .slice rb ly.length rd), (71, .slice (some ⟨bd10, 0, none⟩) 1 1)] w63 := by
                      intro bd10 bd3 w63 S79
                      refine WA.all [4] (by kernel_rfl) rfl ⟨?_, trivial⟩
                      · skip
                        refine WO.set #[true, true, true, true, true, true, true, true, true, true, true, false, false, false, false, false] (by kernel_rfl) ?_
                        refine WO.append encI S79 2 lx (l.getD (i).toNat 0) 65 22 (.int .i64 0) 8 ⟨bd3, 0, none⟩ 1 rfl (by kernel_rfl) (by kernel_rfl) (by kernel_rfl) (by kernel_rfl) (by decide) (box_cells (S79.nth 0 rfl)) (by kernel_rfl) (by kernel_rfl) (⟨by omega, by omega⟩) ?_
                        intro ad4 cd4 w64 S80
                        replace S80 : Sep w [box bd3 [.int .i64 (l.getD (i).toNat 0)] 3, box bd10 [.int .i64 (slope * (l.getD (i).toNat 0))] 3, rowOf encI ad4 cd4 3 1 (lx ++ [l.getD (i).toNat 0]), rowOf encI rb rd 3 1 ly, box b1 [.slice ra lx.length rc, .slice rb ly.length rd] 24] w64 := S80
                        have S81 : Sep w [box bd10 [.int .i64 (slope * (l.getD (i).toNat 0))] 3, rowOf encI ad4 cd4 3 1 (lx ++ [l.getD (i).toNat 0]), rowOf encI rb rd 3 1 ly, box b1 [.slice ra lx.length rc, .slice rb ly.length rd] 24] w64 := S80.erase 0
                        clear S80
                        refine WB.mk (S81.sub (.cons _ (.cons _ (.cons _ (.cons _ (.slnil)))))) ?_
                        refine WA.take 12 73 (.pointer (some ⟨b1, 0, none⟩)) #[true, true, true, true, true, true, true, true, true, true, true, false, true, false, false, false] (by kernel_rfl) (by kernel_rfl) (by kernel_rfl) (fun _ _ => by kernel_rfl) (by kernel_rfl) ?_
                        refine WA.weaken (env' := [(0, .slice la len cap), (1, .int .i64 slope), (2, .int .i64 x), (7, .pointer (some ⟨b1, 0, none⟩)), (35, .slice la len cap), (36, .int .i64 (len : Int)), (37, .int .i64 i), (65, .slice ad4 ((lx ++ [l.getD (i).toNat 0]).length) cd4), (67, .slice rb ly.length rd), (71, .slice (some ⟨bd10, 0, none⟩) 1 1), (73, .pointer (some ⟨b1, 0, none⟩))]) (by kernel_rfl) ?_
                        exact W27 ad4 cd4 bd10 w64 S81
                    have W30 : ∀ (ad4 : Option Addr) (cd4 : Nat) (bd10 : Nat) (w65 : World), Sep w [box bd10 [.int .i64 (slope * (l.getD (i).toNat 0))] 3, rowOf encI ad4 cd4 3 1 (lx ++ [l.getD (i).toNat 0]), rowOf encI rb rd 3 1 ly, box b1 [.slice ra lx.length rc, .slice rb ly.length rd] 24] w65 → WA Tryd.prog 9 158 R K9_23 (fun w_ => Sep w [] w_) 6 #[true, true, true, true, true, true, false, true, true, true, true, false, false, false, false, false] [(0, .slice la len cap), (1, .int .i64 slope), (2, .int .i64 x), (7, .pointer (some ⟨b1, 0, none⟩)), (35, .slice la len cap), (36, .int .i64 (len : Int)), (37, .int .i64 i), (65, .slice ad4 ((lx ++ [l.getD (i).toNat 0]).length) cd4), (66, .pointer (some ⟨b1, 1, none⟩)), (71, .slice (some ⟨bd10, 0, none⟩) 1 1)] w65 := by
                      intro ad4 cd4 bd10 w65 S82
                      refine WA.all [6] (by kernel_rfl) rfl ⟨?_, trivial⟩
                      · skip
                        refine WO.set #[true, true, true, true, true, true, true, true, true, true, true, false, false, false, false, false] (by kernel_rfl) ?_
                        refine WO.ok (OK.ldBox S82 3 67 22 1 (.slice rb ly.length rd) (by kernel_rfl) rfl (by kernel_rfl)) ?_
                        refine WB.mk (S82.sub (.cons _ (.cons _ (.cons _ (.cons _ (.slnil)))))) ?_
                        refine WA.take 12 73 (.pointer (some ⟨b1, 0, none⟩)) #[true, true, true, true, true, true, true, true, true, true, true, false, true, false, false, false] (by kernel_rfl) (by kernel_rfl) (by kernel_rfl) (fun _ _ => by kernel_rfl) (by kernel_rfl) ?_
                        refine WA.weaken (env' := [(0, .slice la len cap), (1, .int .i64 slope), (2, .int .i64 x), (7, .pointer (some ⟨b1, 0, none⟩)), (35, .slice la len cap), (36, .int .i64 (len : Int)), (37, .int .i64 i), (65, .slice ad4 ((lx ++ [l.getD (i).toNat 0]).length) cd4), (67, .slice rb ly.length rd), (71, .slice (some ⟨bd10, 0, none⟩) 1 1), (73, .pointer (some ⟨b1, 0, none⟩))]) (by kernel_rfl) ?_
                        exact W27 ad4 cd4 bd10 w65 S82
                    have W31 : ∀ (bd10 : Nat) (w66 : World), Sep w [box bd10 [.int .i64 (slope * (l.getD (i).toNat 0))] 3, rowOf encI ra rc 3 1 lx, rowOf encI rb rd 3 1 ly, box b1 [.slice ra lx.length rc, .slice rb ly.length rd] 24] w66 → WA Tryd.prog 9 158 R K9_23 (fun w_ => Sep w [] w_) 7 #[true, true, true, false, false, true, true, true, true, true, true, false, false, false, false, false] [(0, .slice la len cap), (1, .int .i64 slope), (2, .int .i64 x), (7, .pointer (some ⟨b1, 0, none⟩)), (35, .slice la len cap), (36, .int .i64 (len : Int)), (37, .int .i64 i), (62, .slice ra lx.length rc), (63, .int .i64 (l.getD (i).toNat 0)), (67, .slice rb ly.length rd), (71, .slice (some ⟨bd10, 0, none⟩) 1 1)] w66 := by
                      intro bd10 w66 S83
                      refine WA.all [3] (by kernel_rfl) rfl ⟨?_, trivial⟩
                      · skip
                        refine WO.set #[true, true, true, true, false, true, true, true, true, true, true, false, false, false, false, false] (by kernel_rfl) ?_
                        refine WO.newSlice S83 64 1 [.int .i64 (l.getD (i).toNat 0)] 3 (by kernel_rfl) ?_
                        intro bd3 w67 S84
                        refine WB.mk (S84.sub (.cons _ (.cons _ (.cons _ (.cons _ (.cons _ (.slnil))))))) ?_
                        refine WA.weaken (env' := [(0, .slice la len cap), (1, .int .i64 slope), (2, .int .i64 x), (7, .pointer (some ⟨b1, 0, none⟩)), (35, .slice la len cap), (36, .int .i64 (len : Int)), (37, .int .i64 i), (62, .slice ra lx.length rc), (64, .slice (some ⟨bd3, 0, none⟩) 1 1), (67, .slice rb ly.length rd), (71, .slice (some ⟨bd10, 0, none⟩) 1 1)]) (by kernel_rfl) ?_
                        exact W29 bd10 bd3 w67 S84
                    have W32 : ∀ (bd10 : Nat) (bd3 : Nat) (w68 : World), Sep w [box bd3 [.int .i64 (l.getD (i).toNat 0)] 3, box bd10 [.int .i64 (slope * (l.getD (i).toNat 0))] 3, rowOf encI ra rc 3 1 lx, rowOf encI rb rd 3 1 ly, box b1 [.slice ra lx.length rc, .slice rb ly.length rd] 24] w68 → WA Tryd.prog 9 158 R K9_23 (fun w_ => Sep w [] w_) 7 #[true, false, true, true, false, true, true, true, true, true, true, false, false, false, false, false] [(0, .slice la len cap), (1, .int .i64 slope), (2, .int .i64 x), (7, .pointer (some ⟨b1, 0, none⟩)), (35, .slice la len cap), (36, .int .i64 (len : Int)), (37, .int .i64 i), (61, .pointer (some ⟨b1, 0, none⟩)), (64, .slice (some ⟨bd3, 0, none⟩) 1 1), (67, .slice rb ly.length rd), (71, .slice (some ⟨bd10, 0, none⟩) 1 1)] w68 := by
                      intro bd10 bd3 w68 S85
                      refine WA.all [1] (by kernel_rfl) rfl ⟨?_, trivial⟩
                      · skip
                        refine WO.set #[true, true, true, true, false, true, true, true, true, true, true, false, false, false, false, false] (by kernel_rfl) ?_
                        refine WO.ok (OK.ldBox S85 4 62 22 0 (.slice ra lx.length rc) (by kernel_rfl) rfl (by kernel_rfl)) ?_
                        refine WB.mk (S85.sub (.cons _ (.cons _ (.cons _ (.cons _ (.cons _ (.slnil))))))) ?_
                        refine WA.weaken (env' := [(0, .slice la len cap), (1, .int .i64 slope), (2, .int .i64 x), (7, .pointer (some ⟨b1, 0, none⟩)), (35, .slice la len cap), (36, .int .i64 (len : Int)), (37, .int .i64 i), (62, .slice ra lx.length rc), (64, .slice (some ⟨bd3, 0, none⟩) 1 1), (67, .slice rb ly.length rd), (71, .slice (some ⟨bd10, 0, none⟩) 1 1)]) (by kernel_rfl) ?_
                        exact W29 bd10 bd3 w68 S85
                    have W33 : ∀ (bd10 : Nat) (bd3 : Nat) (w69 : World), Sep w [box bd3 [.int .i64 (l.getD (i).toNat 0)] 3, box bd10 [.int .i64 (slope * (l.getD (i).toNat 0))] 3, rowOf encI ra rc 3 1 lx, rowOf encI rb rd 3 1 ly, box b1 [.slice ra lx.length rc, .slice rb ly.length rd] 24] w69 → WA Tryd.prog 9 158 R K9_23 (fun w_ => Sep w [] w_) 7 #[true, true, true, true, false, true, false, true, true, true, true, false, false, false, false, false] [(0, .slice la len cap), (1, .int .i64 slope), (2, .int .i64 x), (7, .pointer (some ⟨b1, 0, none⟩)), (35, .slice la len cap), (36, .int .i64 (len : Int)), (37, .int .i64 i), (62, .slice ra lx.length rc), (64, .slice (some ⟨bd3, 0, none⟩) 1 1), (66, .pointer (some ⟨b1, 1, none⟩)), (71, .slice (some ⟨bd10, 0, none⟩) 1 1)] w69 := by
                      intro bd10 bd3 w69 S86
                      refine WA.all [4, 6] (by kernel_rfl) rfl ⟨?_, ?_, trivial⟩
                      · skip
                        refine WO.set #[true, true, true, true, true, true, false, true, true, true, true, false, false, false, false, false] (by kernel_rfl) ?_
                        refine WO.append encI S86 2 lx (l.getD (i).toNat 0) 65 22 (.int .i64 0) 8 ⟨bd3, 0, none⟩ 1 rfl (by kernel_rfl) (by kernel_rfl) (by kernel_rfl) (by kernel_rfl) (by decide) (box_cells (S86.nth 0 rfl)) (by kernel_rfl) (by kernel_rfl) (⟨by omega, by omega⟩) ?_
                        intro ad4 cd4 w70 S87
                        replace S87 : Sep w [box bd3 [.int .i64 (l.getD (i).toNat 0)] 3, box bd10 [.int .i64 (slope * (l.getD (i).toNat 0))] 3, rowOf encI ad4 cd4 3 1 (lx ++ [l.getD (i).toNat 0]), rowOf encI rb rd 3 1 ly, box b1 [.slice ra lx.length rc, .slice rb ly.length rd] 24] w70 := S87
                        have S88 : Sep w [box bd10 [.int .i64 (slope * (l.getD (i).toNat 0))] 3, rowOf encI ad4 cd4 3 1 (lx ++ [l.getD (i).toNat 0]), rowOf encI rb rd 3 1 ly, box b1 [.slice ra lx.length rc, .slice rb ly.length rd] 24] w70 := S87.erase 0
                        clear S87
                        refine WB.mk (S88.sub (.cons _ (.cons _ (.cons _ (.cons _ (.slnil)))))) ?_
                        refine WA.weaken (env' := [(0, .slice la len cap), (1, .int .i64 slope), (2, .int .i64 x), (7, .pointer (some ⟨b1, 0, none⟩)), (35, .slice la len cap), (36, .int .i64 (len : Int)), (37, .int .i64 i), (65, .slice ad4 ((lx ++ [l.getD (i).toNat 0]).length) cd4), (66, .pointer (some ⟨b1, 1, none⟩)), (71, .slice (some ⟨bd10, 0, none⟩) 1 1)]) (by kernel_rfl) ?_
                        exact W30 ad4 cd4 bd10 w70 S88
                      · skip
                        refine WO.set #[true, true, true, true, false, true, true, true, true, true, true, false, false, false, false, false] (by kernel_rfl) ?_
                        refine WO.ok (OK.ldBox S86 4 67 22 1 (.slice rb ly.length rd) (by kernel_rfl) rfl (by kernel_rfl)) ?_
                        refine WB.mk (S86.sub (.cons _ (.cons _ (.cons _ (.cons _ (.cons _ (.slnil))))))) ?_
                        refine WA.weaken (env' := [(0, .slice la len cap), (1, .int .i64 slope), (2, .int .i64 x), (7, .pointer (some ⟨b1, 0, none⟩)), (35, .slice la len cap), (36, .int .i64 (len : Int)), (37, .int .i64 i), (62, .slice ra lx.length rc), (64, .slice (some ⟨bd3, 0, none⟩) 1 1), (67, .slice rb ly.length rd), (71, .slice (some ⟨bd10, 0, none⟩) 1 1)]) (by kernel_rfl) ?_
                        exact W29 bd10 bd3 w69 S86
                    have W34 : ∀ (bd3 : Nat) (w71 : World), Sep w [box bd3 [.int .i64 (l.getD (i).toNat 0)] 3, rowOf encI ra rc 3 1 lx, rowOf encI rb rd 3 1 ly, box b1 [.slice ra lx.length rc, .slice rb ly.length rd] 24] w71 → WA Tryd.prog 9 158 R K9_23 (fun w_ => Sep w [] w_) 7 #[true, true, true, true, false, true, true, true, true, true, false, false, false, false, false, false] [(0, .slice la len cap), (1, .int .i64 slope), (2, .int .i64 x), (7, .pointer (some ⟨b1, 0, none⟩)), (35, .slice la len cap), (36, .int .i64 (len : Int)), (37, .int .i64 i), (62, .slice ra lx.length rc), (64, .slice (some ⟨bd3, 0, none⟩) 1 1), (67, .slice rb ly.length rd), (70, .int .i64 (slope * (l.getD (i).toNat 0)))] w71 := by
                      intro bd3 w71 S89
                      refine WA.all [4, 10] (by kernel_rfl) rfl ⟨?_, ?_, trivial⟩
                      · skip
                        refine WO.set #[true, true, true, true, true, true, true, true, true, true, false, false, false, false, false, false] (by kernel_rfl) ?_
                        refine WO.append encI S89 1 lx (l.getD (i).toNat 0) 65 22 (.int .i64 0) 8 ⟨bd3, 0, none⟩ 1 rfl (by kernel_rfl) (by kernel_rfl) (by kernel_rfl) (by kernel_rfl) (by decide) (box_cells (S89.nth 0 rfl)) (by kernel_rfl) (by kernel_rfl) (⟨by omega, by omega⟩) ?_
                        intro ad4 cd4 w72 S90
                        replace S90 : Sep w [box bd3 [.int .i64 (l.getD (i).toNat 0)] 3, rowOf encI ad4 cd4 3 1 (lx ++ [l.getD (i).toNat 0]), rowOf encI rb rd 3 1 ly, box b1 [.slice ra lx.length rc, .slice rb ly.length rd] 24] w72 := S90
                        have S91 : Sep w [rowOf encI ad4 cd4 3 1 (lx ++ [l.getD (i).toNat 0]), rowOf encI rb rd 3 1 ly, box b1 [.slice ra lx.length rc, .slice rb ly.length rd] 24] w72 := S90.erase 0
                        clear S90
                        refine WB.mk (S91.sub (.cons _ (.cons _ (.cons _ (.slnil))))) ?_
                        refine WA.take 12 73 (.pointer (some ⟨b1, 0, none⟩)) #[true, true, true, true, true, true, true, true, true, true, false, false, true, false, false, false] (by kernel_rfl) (by kernel_rfl) (by kernel_rfl) (fun _ _ => by kernel_rfl) (by kernel_rfl) ?_
                        refine WA.weaken (env' := [(0, .slice la len cap), (1, .int .i64 slope), (2, .int .i64 x), (7, .pointer (some ⟨b1, 0, none⟩)), (35, .slice la len cap), (36, .int .i64 (len : Int)), (37, .int .i64 i), (65, .slice ad4 ((lx ++ [l.getD (i).toNat 0]).length) cd4), (67, .slice rb ly.length rd), (70, .int .i64 (slope * (l.getD (i).toNat 0))), (73, .pointer (some ⟨b1, 0, none⟩))]) (by kernel_rfl) ?_
                        exact W28 ad4 cd4 w72 S91
                      · skip
                        refine WO.set #[true, true, true, true, false, true, true, true, true, true, true, false, false, false, false, false] (by kernel_rfl) ?_
                        refine WO.newSlice S89 71 1 [.int .i64 (slope * (l.getD (i).toNat 0))] 3 (by kernel_rfl) ?_
                        intro bd10 w73 S92
                        refine WB.mk (S92.sub (.cons _ (.cons _ (.cons _ (.cons _ (.cons _ (.slnil))))))) ?_
                        refine WA.weaken (env' := [(0, .slice la len cap), (1, .int .i64 slope), (2, .int .i64 x), (7, .pointer (some ⟨b1, 0, none⟩)), (35, .slice la len cap), (36, .int .i64 (len : Int)), (37, .int .i64 i), (62, .slice ra lx.length rc), (64, .slice (some ⟨bd3, 0, none⟩) 1 1), (67, .slice rb ly.length rd), (71, .slice (some ⟨bd10, 0, none⟩) 1 1)]) (by kernel_rfl) ?_
                        have S93 : Sep w [box bd10 [.int .i64 (slope * (l.getD (i).toNat 0))] 3, box bd3 [.int .i64 (l.getD (i).toNat 0)] 3, rowOf encI ra rc 3 1 lx, rowOf encI rb rd 3 1 ly, box b1 [.slice ra lx.length rc, .slice rb ly.length rd] 24] w73 := S92.front 0 rfl
                        have S94 : Sep w [box bd3 [.int .i64 (l.getD (i).toNat 0)] 3, box bd10 [.int .i64 (slope * (l.getD (i).toNat 0))] 3, rowOf encI ra rc 3 1 lx, rowOf encI rb rd 3 1 ly, box b1 [.slice ra lx.length rc, .slice rb ly.length rd] 24] w73 := S93.front 1 rfl
                        exact W29 bd10 bd3 w73 S94
                    have W35 : ∀ (ad4 : Option Addr) (cd4 : Nat) (w74 : World), Sep w [rowOf encI ad4 cd4 3 1 (lx ++ [l.getD (i).toNat 0]), rowOf encI rb rd 3 1 ly, box b1 [.slice ra lx.length rc, .slice rb ly.length rd] 24] w74 → WA Tryd.prog 9 158 R K9_23 (fun w_ => Sep w [] w_) 7 #[true, true, true, true, true, true, false, true, true, true, false, false, false, false, false, false] [(0, .slice la len cap), (1, .int .i64 slope), (2, .int .i64 x), (7, .pointer (some ⟨b1, 0, none⟩)), (35, .slice la len cap), (36, .int .i64 (len : Int)), (37, .int .i64 i), (65, .slice ad4 ((lx ++ [l.getD (i).toNat 0]).length) cd4), (66, .pointer (some ⟨b1, 1, none⟩)), (70, .int .i64 (slope * (l.getD (i).toNat 0)))] w74 := by
                      intro ad4 cd4 w74 S95
                      refine WA.all [6, 10] (by kernel_rfl) rfl ⟨?_, ?_, trivial⟩
                      · skip
                        refine WO.set #[true, true, true, true, true, true, true, true, true, true, false, false, false, false, false, false] (by kernel_rfl) ?_
                        refine WO.ok (OK.ldBox S95 2 67 22 1 (.slice rb ly.length rd) (by kernel_rfl) rfl (by kernel_rfl)) ?_
                        refine WB.mk (S95.sub (.cons _ (.cons _ (.cons _ (.slnil))))) ?_
                        refine WA.take 12 73 (.pointer (some ⟨b1, 0, none⟩)) #[true, true, true, true, true, true, true, true, true, true, false, false, true, false, false, false] (by kernel_rfl) (by kernel_rfl) (by kernel_rfl) (fun _ _ => by kernel_rfl) (by kernel_rfl) ?_
                        refine WA.weaken (env' := [(0, .slice la len cap), (1, .int .i64 slope), (2, .int .i64 x), (7, .pointer (some ⟨b1, 0, none⟩)), (35, .slice la len cap), (36, .int .i64 (len : Int)), (37, .int .i64 i), (65, .slice ad4 ((lx ++ [l.getD (i).toNat 0]).length) cd4), (67, .slice rb ly.length rd), (70, .int .i64 (slope * (l.getD (i).toNat 0))), (73, .pointer (some ⟨b1, 0, none⟩))]) (by kernel_rfl) ?_
                        exact W28 ad4 cd4 w74 S95
                      · skip
                        refine WO.set #[true, true, true, true, true, true, false, true, true, true, true, false, false, false, false, false] (by kernel_rfl) ?_
                        refine WO.newSlice S95 71 1 [.int .i64 (slope * (l.getD (i).toNat 0))] 3 (by kernel_rfl) ?_
                        intro bd10 w75 S96
                        refine WB.mk (S96.sub (.cons _ (.cons _ (.cons _ (.cons _ (.slnil)))))) ?_
                        refine WA.weaken (env' := [(0, .slice la len cap), (1, .int .i64 slope), (2, .int .i64 x), (7, .pointer (some ⟨b1, 0, none⟩)), (35, .slice la len cap), (36, .int .i64 (len : Int)), (37, .int .i64 i), (65, .slice ad4 ((lx ++ [l.getD (i).toNat 0]).length) cd4), (66, .pointer (some ⟨b1, 1, none⟩)), (71, .slice (some ⟨bd10, 0, none⟩) 1 1)]) (by kernel_rfl) ?_
                        exact W30 ad4 cd4 bd10 w75 S96
                    have W36 : ∀ (bd10 : Nat) (w76 : World), Sep w [box bd10 [.int .i64 (slope * (l.getD (i).toNat 0))] 3, rowOf encI ra rc 3 1 lx, rowOf encI rb rd 3 1 ly, box b1 [.slice ra lx.length rc, .slice rb ly.length rd] 24] w76 → WA Tryd.prog 9 158 R K9_23 (fun w_ => Sep w [] w_) 8 #[true, true, true, false, false, true, false, true, true, true, true, false, false, false, false, false] [(0, .slice la len cap), (1, .int .i64 slope), (2, .int .i64 x), (7, .pointer (some ⟨b1, 0, none⟩)), (35, .slice la len cap), (36, .int .i64 (len : Int)), (37, .int .i64 i), (62, .slice ra lx.length rc), (63, .int .i64 (l.getD (i).toNat 0)), (66, .pointer (some ⟨b1, 1, none⟩)), (71, .slice (some ⟨bd10, 0, none⟩) 1 1)] w76 := by
                      intro bd10 w76 S97
                      refine WA.all [3, 6] (by kernel_rfl) rfl ⟨?_, ?_, trivial⟩
                      · skip
                        refine WO.set #[true, true, true, true, false, true, false, true, true, true, true, false, false, false, false, false] (by kernel_rfl) ?_
                        refine WO.newSlice S97 64 1 [.int .i64 (l.getD (i).toNat 0)] 3 (by kernel_rfl) ?_
                        intro bd3 w77 S98
                        refine WB.mk (S98.sub (.cons _ (.cons _ (.cons _ (.cons _ (.cons _ (.slnil))))))) ?_
                        refine WA.weaken (env' := [(0, .slice la len cap), (1, .int .i64 slope), (2, .int .i64 x), (7, .pointer (some ⟨b1, 0, none⟩)), (35, .slice la len cap), (36, .int .i64 (len : Int)), (37, .int .i64 i), (62, .slice ra lx.length rc), (64, .slice (some ⟨bd3, 0, none⟩) 1 1), (66, .pointer (some ⟨b1, 1, none⟩)), (71, .slice (some ⟨bd10, 0, none⟩) 1 1)]) (by kernel_rfl) ?_
                        exact W33 bd10 bd3 w77 S98
                      · skip
                        refine WO.set #[true, true, true, false, false, true, true, true, true, true, true, false, false, false, false, false] (by kernel_rfl) ?_
                        refine WO.ok (OK.ldBox S97 3 67 22 1 (.slice rb ly.length rd) (by kernel_rfl) rfl (by kernel_rfl)) ?_
                        refine WB.mk (S97.sub (.cons _ (.cons _ (.cons _ (.cons _ (.slnil)))))) ?_
                        refine WA.weaken (env' := [(0, .slice la len cap), (1, .int .i64 slope), (2, .int .i64 x), (7, .pointer (some ⟨b1, 0, none⟩)), (35, .slice la len cap), (36, .int .i64 (len : Int)), (37, .int .i64 i), (62, .slice ra lx.length rc), (63, .int .i64 (l.getD (i).toNat 0)), (67, .slice rb ly.length rd), (71, .slice (some ⟨bd10, 0, none⟩) 1 1)]) (by kernel_rfl) ?_
                        exact W31 bd10 w76 S97
                    have W37 : ∀ (bd10 : Nat) (bd3 : Nat) (w78 : World), Sep w [box bd3 [.int .i64 (l.getD (i).toNat 0)] 3, box bd10 [.int .i64 (slope * (l.getD (i).toNat 0))] 3, rowOf encI ra rc 3 1 lx, rowOf encI rb rd 3 1 ly, box b1 [.slice ra lx.length rc, .slice rb ly.length rd] 24] w78 → WA Tryd.prog 9 158 R K9_23 (fun w_ => Sep w [] w_) 8 #[true, false, true, true, false, true, false, true, true, true, true, false, false, false, false, false] [(0, .slice la len cap), (1, .int .i64 slope), (2, .int .i64 x), (7, .pointer (some ⟨b1, 0, none⟩)), (35, .slice la len cap), (36, .int .i64 (len : Int)), (37, .int .i64 i), (61, .pointer (some ⟨b1, 0, none⟩)), (64, .slice (some ⟨bd3, 0, none⟩) 1 1), (66, .pointer (some ⟨b1, 1, none⟩)), (71, .slice (some ⟨bd10, 0, none⟩) 1 1)] w78 := by
                      intro bd10 bd3 w78 S99
                      refine WA.all [1, 6] (by kernel_rfl) rfl ⟨?_, ?_, trivial⟩
                      · skip
                        refine WO.set #[true, true, true, true, false, true, false, true, true, true, true, false, false, false, false, false] (by kernel_rfl) ?_
                        refine WO.ok (OK.ldBox S99 4 62 22 0 (.slice ra lx.length rc) (by kernel_rfl) rfl (by kernel_rfl)) ?_
                        refine WB.mk (S99.sub (.cons _ (.cons _ (.cons _ (.cons _ (.cons _ (.slnil))))))) ?_
                        refine WA.weaken (env' := [(0, .slice la len cap), (1, .int .i64 slope), (2, .int .i64 x), (7, .pointer (some ⟨b1, 0, none⟩)), (35, .slice la len cap), (36, .int .i64 (len : Int)), (37, .int .i64 i), (62, .slice ra lx.length rc), (64, .slice (some ⟨bd3, 0, none⟩) 1 1), (66, .pointer (some ⟨b1, 1, none⟩)), (71, .slice (some ⟨bd10, 0, none⟩) 1 1)]) (by kernel_rfl) ?_
                        exact W33 bd10 bd3 w78 S99
                      · skip
                        refine WO.set #[true, false, true, true, false, true, true, true, true, true, true, false, false, false, false, false] (by kernel_rfl) ?_
                        refine WO.ok (OK.ldBox S99 4 67 22 1 (.slice rb ly.length rd) (by kernel_rfl) rfl (by kernel_rfl)) ?_
                        refine WB.mk (S99.sub (.cons _ (.cons _ (.cons _ (.cons _ (.cons _ (.slnil))))))) ?_
                        refine WA.weaken (env' := [(0, .slice la len cap), (1, .int .i64 slope), (2, .int .i64 x), (7, .pointer (some ⟨b1, 0, none⟩)), (35, .slice la len cap), (36, .int .i64 (len : Int)), (37, .int .i64 i), (61, .pointer (some ⟨b1, 0, none⟩)), (64, .slice (some ⟨bd3, 0, none⟩) 1 1), (67, .slice rb ly.length rd), (71, .slice (some ⟨bd10, 0, none⟩) 1 1)]) (by kernel_rfl) ?_
                        exact W32 bd10 bd3 w78 S99
                    have W38 : ∀ (bd10 : Nat) (w79 : World), Sep w [box bd10 [.int .i64 (slope * (l.getD (i).toNat 0))] 3, rowOf encI ra rc 3 1 lx, rowOf encI rb rd 3 1 ly, box b1 [.slice ra lx.length rc, .slice rb ly.length rd] 24] w79 → WA Tryd.prog 9 158 R K9_23 (fun w_ => Sep w [] w_) 8 #[true, false, true, false, false, true, true, true, true, true, true, false, false, false, false, false] [(0, .slice la len cap), (1, .int .i64 slope), (2, .int .i64 x), (7, .pointer (some ⟨b1, 0, none⟩)), (35, .slice la len cap), (36, .int .i64 (len : Int)), (37, .int .i64 i), (61, .pointer (some ⟨b1, 0, none⟩)), (63, .int .i64 (l.getD (i).toNat 0)), (67, .slice rb ly.length rd), (71, .slice (some ⟨bd10, 0, none⟩) 1 1)] w79 := by
                      intro bd10 w79 S100
                      refine WA.all [1, 3] (by kernel_rfl) rfl ⟨?_, ?_, trivial⟩
                      · skip
                        refine WO.set #[true, true, true, false, false, true, true, true, true, true, true, false, false, false, false, false] (by kernel_rfl) ?_
                        refine WO.ok (OK.ldBox S100 3 62 22 0 (.slice ra lx.length rc) (by kernel_rfl) rfl (by kernel_rfl)) ?_
                        refine WB.mk (S100.sub (.cons _ (.cons _ (.cons _ (.cons _ (.slnil)))))) ?_
                        refine WA.weaken (env' := [(0, .slice la len cap), (1, .int .i64 slope), (2, .int .i64 x), (7, .pointer (some ⟨b1, 0, none⟩)), (35, .slice la len cap), (36, .int .i64 (len : Int)), (37, .int .i64 i), (62, .slice ra lx.length rc), (63, .int .i64 (l.getD (i).toNat 0)), (67, .slice rb ly.length rd), (71, .slice (some ⟨bd10, 0, none⟩) 1 1)]) (by kernel_rfl) ?_
                        exact W31 bd10 w79 S100
                      · skip
                        refine WO.set #[true, false, true, true, false, true, true, true, true, true, true, false, false, false, false, false] (by kernel_rfl) ?_
                        refine WO.newSlice S100 64 1 [.int .i64 (l.getD (i).toNat 0)] 3 (by kernel_rfl) ?_
                        intro bd3 w80 S101
                        refine WB.mk (S101.sub (.cons _ (.cons _ (.cons _ (.cons _ (.cons _ (.slnil))))))) ?_
                        refine WA.weaken (env' := [(0, .slice la len cap), (1, .int .i64 slope), (2, .int .i64 x), (7, .pointer (some ⟨b1, 0, none⟩)), (35, .slice la len cap), (36, .int .i64 (len : Int)), (37, .int .i64 i), (61, .pointer (some ⟨b1, 0, none⟩)), (64, .slice (some ⟨bd3, 0, none⟩) 1 1), (67, .slice rb ly.length rd), (71, .slice (some ⟨bd10, 0, none⟩) 1 1)]) (by kernel_rfl) ?_
                        exact W32 bd10 bd3 w80 S101
                    have W39 : ∀ (w81 : World), Sep w [rowOf encI ra rc 3 1 lx, rowOf encI rb rd 3 1 ly, box b1 [.slice ra lx.length rc, .slice rb ly.length rd] 24] w81 → WA Tryd.prog 9 158 R K9_23 (fun w_ => Sep w [] w_) 8 #[true, true, true, false, false, true, true, true, true, true, false, false, false, false, false, false] [(0, .slice la len cap), (1, .int .i64 slope), (2, .int .i64 x), (7, .pointer (some ⟨b1, 0, none⟩)), (35, .slice la len cap), (36, .int .i64 (len : Int)), (37, .int .i64 i), (62, .slice ra lx.length rc), (63, .int .i64 (l.getD (i).toNat 0)), (67, .slice rb ly.length rd), (70, .int .i64 (slope * (l.getD (i).toNat 0)))] w81 := by
                      intro w81 S102
                      refine WA.all [3, 10] (by kernel_rfl) rfl ⟨?_, ?_, trivial⟩
                      · skip
                        refine WO.set #[true, true, true, true, false, true, true, true, true, true, false, false, false, false, false, false] (by kernel_rfl) ?_
                        refine WO.newSlice S102 64 1 [.int .i64 (l.getD (i).toNat 0)] 3 (by kernel_rfl) ?_
                        intro bd3 w82 S103
                        refine WB.mk (S103.sub (.cons _ (.cons _ (.cons _ (.cons _ (.slnil)))))) ?_
                        refine WA.weaken (env' := [(0, .slice la len cap), (1, .int .i64 slope), (2, .int .i64 x), (7, .pointer (some ⟨b1, 0, none⟩)), (35, .slice la len cap), (36, .int .i64 (len : Int)), (37, .int .i64 i), (62, .slice ra lx.length rc), (64, .slice (some ⟨bd3, 0, none⟩) 1 1), (67, .slice rb ly.length rd), (70, .int .i64 (slope * (l.getD (i).toNat 0)))]) (by kernel_rfl) ?_
                        exact W34 bd3 w82 S103
                      · skip
                        refine WO.set #[true, true, true, false, false, true, true, true, true, true, true, false, false, false, false, false] (by kernel_rfl) ?_
                        refine WO.newSlice S102 71 1 [.int .i64 (slope * (l.getD (i).toNat 0))] 3 (by kernel_rfl) ?_
                        intro bd10 w83 S104
                        refine WB.mk (S104.sub (.cons _ (.cons _ (.cons _ (.cons _ (.slnil)))))) ?_
                        refine WA.weaken (env' := [(0, .slice la len cap), (1, .int .i64 slope), (2, .int .i64 x), (7, .pointer (some ⟨b1, 0, none⟩)), (35, .slice la len cap), (36, .int .i64 (len : Int)), (37, .int .i64 i), (62, .slice ra lx.length rc), (63, .int .i64 (l.getD (i).toNat 0)), (67, .slice rb ly.length rd), (71, .slice (some ⟨bd10, 0, none⟩) 1 1)]) (by kernel_rfl) ?_
                        exact W31 bd10 w83 S104
                    have W40 : ∀ (bd3 : Nat) (w84 : World), Sep w [box bd3 [.int .i64 (l.getD (i).toNat 0)] 3, rowOf encI ra rc 3 1 lx, rowOf encI rb rd 3 1 ly, box b1 [.slice ra lx.length rc, .slice rb ly.length rd] 24] w84 → WA Tryd.prog 9 158 R K9_23 (fun w_ => Sep w [] w_) 8 #[true, false, true, true, false, true, true, true, true, true, false, false, false, false, false, false] [(0, .slice la len cap), (1, .int .i64 slope), (2, .int .i64 x), (7, .pointer (some ⟨b1, 0, none⟩)), (35, .slice la len cap), (36, .int .i64 (len : Int)), (37, .int .i64 i), (61, .pointer (some ⟨b1, 0, none⟩)), (64, .slice (some ⟨bd3, 0, none⟩) 1 1), (67, .slice rb ly.length rd), (70, .int .i64 (slope * (l.getD (i).toNat 0)))] w84 := by
                      intro bd3 w84 S105
                      refine WA.all [1, 10] (by kernel_rfl) rfl ⟨?_, ?_, trivial⟩
                      · skip
                        refine WO.set #[true, true, true, true, false, true, true, true, true, true, false, false, false, false, false, false] (by kernel_rfl) ?_
                        refine WO.ok (OK.ldBox S105 3 62 22 0 (.slice ra lx.length rc) (by kernel_rfl) rfl (by kernel_rfl)) ?_
                        refine WB.mk (S105.sub (.cons _ (.cons _ (.cons _ (.cons _ (.slnil)))))) ?_
                        refine WA.weaken (env' := [(0, .slice la len cap), (1, .int .i64 slope), (2, .int .i64 x), (7, .pointer (some ⟨b1, 0, none⟩)), (35, .slice la len cap), (36, .int .i64 (len : Int)), (37, .int .i64 i), (62, .slice ra lx.length rc), (64, .slice (some ⟨bd3, 0, none⟩) 1 1), (67, .slice rb ly.length rd), (70, .int .i64 (slope * (l.getD (i).toNat 0)))]) (by kernel_rfl) ?_
                        exact W34 bd3 w84 S105
                      · skip
                        refine WO.set #[true, false, true, true, false, true, true, true, true, true, true, false, false, false, false, false] (by kernel_rfl) ?_
                        refine WO.newSlice S105 71 1 [.int .i64 (slope * (l.getD (i).toNat 0))] 3 (by kernel_rfl) ?_
                        intro bd10 w85 S106
                        refine WB.mk (S106.sub (.cons _ (.cons _ (.cons _ (.cons _ (.cons _ (.slnil))))))) ?_
                        refine WA.weaken (env' := [(0, .slice la len cap), (1, .int .i64 slope), (2, .int .i64 x), (7, .pointer (some ⟨b1, 0, none⟩)), (35, .slice la len cap), (36, .int .i64 (len : Int)), (37, .int .i64 i), (61, .pointer (some ⟨b1, 0, none⟩)), (64, .slice (some ⟨bd3, 0, none⟩) 1 1), (67, .slice rb ly.length rd), (71, .slice (some ⟨bd10, 0, none⟩) 1 1)]) (by kernel_rfl) ?_
                        have S107 : Sep w [box bd10 [.int .i64 (slope * (l.getD (i).toNat 0))] 3, box bd3 [.int .i64 (l.getD (i).toNat 0)] 3, rowOf encI ra rc 3 1 lx, rowOf encI rb rd 3 1 ly, box b1 [.slice ra lx.length rc, .slice rb ly.length rd] 24] w85 := S106.front 0 rfl
                        have S108 : Sep w [box bd3 [.int .i64 (l.getD (i).toNat 0)] 3, box bd10 [.int .i64 (slope * (l.getD (i).toNat 0))] 3, rowOf encI ra rc 3 1 lx, rowOf encI rb rd 3 1 ly, box b1 [.slice ra lx.length rc, .slice rb ly.length rd] 24] w85 := S107.front 1 rfl
                        exact W32 bd10 bd3 w85 S108
                    have W41 : ∀ (bd3 : Nat) (w86 : World), Sep w [box bd3 [.int .i64 (l.getD (i).toNat 0)] 3, rowOf encI ra rc 3 1 lx, rowOf encI rb rd 3 1 ly, box b1 [.slice ra lx.length rc, .slice rb ly.length rd] 24] w86 → WA Tryd.prog 9 158 R K9_23 (fun w_ => Sep w [] w_) 8 #[true, true, true, true, false, true, false, true, true, true, false, false, false, false, false, false] [(0, .slice la len cap), (1, .int .i64 slope), (2, .int .i64 x), (7, .pointer (some ⟨b1, 0, none⟩)), (35, .slice la len cap), (36, .int .i64 (len : Int)), (37, .int .i64 i), (62, .slice ra lx.length rc), (64, .slice (some ⟨bd3, 0, none⟩) 1 1), (66, .pointer (some ⟨b1, 1, none⟩)), (70, .int .i64 (slope * (l.getD (i).toNat 0)))] w86 := by
                      intro bd3 w86 S109
                      refine WA.all [4, 6, 10] (by kernel_rfl) rfl ⟨?_, ?_, ?_, trivial⟩
                      · skip
                        refine WO.set #[true, true, true, true, true, true, false, true, true, true, false, false, false, false, false, false] (by kernel_rfl) ?_
                        refine WO.append encI S109 1 lx (l.getD (i).toNat 0) 65 22 (.int .i64 0) 8 ⟨bd3, 0, none⟩ 1 rfl (by kernel_rfl) (by kernel_rfl) (by kernel_rfl) (by kernel_rfl) (by decide) (box_cells (S109.nth 0 rfl)) (by kernel_rfl) (by kernel_rfl) (⟨by omega, by omega⟩) ?_
                        intro ad4 cd4 w87 S110
                        replace S110 : Sep w [box bd3 [.int .i64 (l.getD (i).toNat 0)] 3, rowOf encI ad4 cd4 3 1 (lx ++ [l.getD (i).toNat 0]), rowOf encI rb rd 3 1 ly, box b1 [.slice ra lx.length rc, .slice rb ly.length rd] 24] w87 := S110
                        have S111 : Sep w [rowOf encI ad4 cd4 3 1 (lx ++ [l.getD (i).toNat 0]), rowOf encI rb rd 3 1 ly, box b1 [.slice ra lx.length rc, .slice rb ly.length rd] 24] w87 := S110.erase 0
                        clear S110
                        refine WB.mk (S111.sub (.cons _ (.cons _ (.cons _ (.slnil))))) ?_
                        refine WA.weaken (env' := [(0, .slice la len cap), (1, .int .i64 slope), (2, .int .i64 x), (7, .pointer (some ⟨b1, 0, none⟩)), (35, .slice la len cap), (36, .int .i64 (len : Int)), (37, .int .i64 i), (65, .slice ad4 ((lx ++ [l.getD (i).toNat 0]).length) cd4), (66, .pointer (some ⟨b1, 1, none⟩)), (70, .int .i64 (slope * (l.getD (i).toNat 0)))]) (by kernel_rfl) ?_
                        exact W35 ad4 cd4 w87 S111
                      · skip
                        refine WO.set #[true, true, true, true, false, true, true, true, true, true, false, false, false, false, false, false] (by kernel_rfl) ?_
                        refine WO.ok (OK.ldBox S109 3 67 22 1 (.slice rb ly.length rd) (by kernel_rfl) rfl (by kernel_rfl)) ?_
                        refine WB.mk (S109.sub (.cons _ (.cons _ (.cons _ (.cons _ (.slnil)))))) ?_
                        refine WA.weaken (env' := [(0, .slice la len cap), (1, .int .i64 slope), (2, .int .i64 x), (7, .pointer (some ⟨b1, 0, none⟩)), (35, .slice la len cap), (36, .int .i64 (len : Int)), (37, .int .i64 i), (62, .slice ra lx.length rc), (64, .slice (some ⟨bd3, 0, none⟩) 1 1), (67, .slice rb ly.length rd), (70, .int .i64 (slope * (l.getD (i).toNat 0)))]) (by kernel_rfl) ?_
                        exact W34 bd3 w86 S109
                      · skip
                        refine WO.set #[true, true, true, true, false, true, false, true, true, true, true, false, false, false, false, false] (by kernel_rfl) ?_
                        refine WO.newSlice S109 71 1 [.int .i64 (slope * (l.getD (i).toNat 0))] 3 (by kernel_rfl) ?_
                        intro bd10 w88 S112
                        refine WB.mk (S112.sub (.cons _ (.cons _ (.cons _ (.cons _ (.cons _ (.slnil))))))) ?_
                        refine WA.weaken (env' := [(0, .slice la len cap), (1, .int .i64 slope), (2, .int .i64 x), (7, .pointer (some ⟨b1, 0, none⟩)), (35, .slice la len cap), (36, .int .i64 (len : Int)), (37, .int .i64 i), (62, .slice ra lx.length rc), (64, .slice (some ⟨bd3, 0, none⟩) 1 1), (66, .pointer (some ⟨b1, 1, none⟩)), (71, .slice (some ⟨bd10, 0, none⟩) 1 1)]) (by kernel_rfl) ?_
                        have S113 : Sep w [box bd10 [.int .i64 (slope * (l.getD (i).toNat 0))] 3, box bd3 [.int .i64 (l.getD (i).toNat 0)] 3, rowOf encI ra rc 3 1 lx, rowOf encI rb rd 3 1 ly, box b1 [.slice ra lx.length rc, .slice rb ly.length rd] 24] w88 := S112.front 0 rfl
                        have S114 : Sep w [box bd3 [.int .i64 (l.getD (i).toNat 0)] 3, box bd10 [.int .i64 (slope * (l.getD (i).toNat 0))] 3, rowOf encI ra rc 3 1 lx, rowOf encI rb rd 3 1 ly, box b1 [.slice ra lx.length rc, .slice rb ly.length rd] 24] w88 := S113.front 1 rfl
                        exact W33 bd10 bd3 w88 S114
                    have W42 : ∀ (w89 : World), Sep w [rowOf encI ra rc 3 1 lx, rowOf encI rb rd 3 1 ly, box b1 [.slice ra lx.length rc, .slice rb ly.length rd] 24] w89 → WA Tryd.prog 9 158 R K9_23 (fun w_ => Sep w [] w_) 9 #[true, true, true, false, false, true, false, true, true, true, false, false, false, false, false, false] [(0, .slice la len cap), (1, .int .i64 slope), (2, .int .i64 x), (7, .pointer (some ⟨b1, 0, none⟩)), (35, .slice la len cap), (36, .int .i64 (len : Int)), (37, .int .i64 i), (62, .slice ra lx.length rc), (63, .int .i64 (l.getD (i).toNat 0)), (66, .pointer (some ⟨b1, 1, none⟩)), (70, .int .i64 (slope * (l.getD (i).toNat 0)))] w89 := by
                      intro w89 S115
                      refine WA.all [3, 6, 10] (by kernel_rfl) rfl ⟨?_, ?_, ?_, trivial⟩
                      · skip
                        refine WO.set #[true, true, true, true, false, true, false, true, true, true, false, false, false, false, false, false] (by kernel_rfl) ?_
                        refine WO.newSlice S115 64 1 [.int .i64 (l.getD (i).toNat 0)] 3 (by kernel_rfl) ?_
                        intro bd3 w90 S116
                        refine WB.mk (S116.sub (.cons _ (.cons _ (.cons _ (.cons _ (.slnil)))))) ?_
                        refine WA.weaken (env' := [(0, .slice la len cap), (1, .int .i64 slope), (2, .int .i64 x), (7, .pointer (some ⟨b1, 0, none⟩)), (35, .slice la len cap), (36, .int .i64 (len : Int)), (37, .int .i64 i), (62, .slice ra lx.length rc), (64, .slice (some ⟨bd3, 0, none⟩) 1 1), (66, .pointer (some ⟨b1, 1, none⟩)), (70, .int .i64 (slope * (l.getD (i).toNat 0)))]) (by kernel_rfl) ?_
                        exact W41 bd3 w90 S116
                      · skip
                        refine WO.set #[true, true, true, false, false, true, true, true, true, true, false, false, false, false, false, false] (by kernel_rfl) ?_
                        refine WO.ok (OK.ldBox S115 2 67 22 1 (.slice rb ly.length rd) (by kernel_rfl) rfl (by kernel_rfl)) ?_
                        refine WB.mk (S115.sub (.cons _ (.cons _ (.cons _ (.slnil))))) ?_
                        refine WA.weaken (env' := [(0, .slice la len cap), (1, .int .i64 slope), (2, .int .i64 x), (7, .pointer (some ⟨b1, 0, none⟩)), (35, .slice la len cap), (36, .int .i64 (len : Int)), (37, .int .i64 i), (62, .slice ra lx.length rc), (63, .int .i64 (l.getD (i).toNat 0)), (67, .slice rb ly.length rd), (70, .int .i64 (slope * (l.getD (i).toNat 0)))]) (by kernel_rfl) ?_
                        exact W39 w89 S115
                      · skip
                        refine WO.set #[true, true, true, false, false, true, false, true, true, true, true, false, false, false, false, false] (by kernel_rfl) ?_
                        refine WO.newSlice S115 71 1 [.int .i64 (slope * (l.getD (i).toNat 0))] 3 (by kernel_rfl) ?_
                        intro bd10 w91 S117
                        refine WB.mk (S117.sub (.cons _ (.cons _ (.cons _ (.cons _ (.slnil)))))) ?_
                        refine WA.weaken (env' := [(0, .slice la len cap), (1, .int .i64 slope), (2, .int .i64 x), (7, .pointer (some ⟨b1, 0, none⟩)), (35, .slice la len cap), (36, .int .i64 (len : Int)), (37, .int .i64 i), (62, .slice ra lx.length rc), (63, .int .i64 (l.getD (i).toNat 0)), (66, .pointer (some ⟨b1, 1, none⟩)), (71, .slice (some ⟨bd10, 0, none⟩) 1 1)]) (by kernel_rfl) ?_
                        exact W36 bd10 w91 S117
                    have W43 : ∀ (bd3 : Nat) (w92 : World), Sep w [box bd3 [.int .i64 (l.getD (i).toNat 0)] 3, rowOf encI ra rc 3 1 lx, rowOf encI rb rd 3 1 ly, box b1 [.slice ra lx.length rc, .slice rb ly.length rd] 24] w92 → WA Tryd.prog 9 158 R K9_23 (fun w_ => Sep w [] w_) 9 #[true, false, true, true, false, true, false, true, true, true, false, false, false, false, false, false] [(0, .slice la len cap), (1, .int .i64 slope), (2, .int .i64 x), (7, .pointer (some ⟨b1, 0, none⟩)), (35, .slice la len cap), (36, .int .i64 (len : Int)), (37, .int .i64 i), (61, .pointer (some ⟨b1, 0, none⟩)), (64, .slice (some ⟨bd3, 0, none⟩) 1 1), (66, .pointer (some ⟨b1, 1, none⟩)), (70, .int .i64 (slope * (l.getD (i).toNat 0)))] w92 := by
                      intro bd3 w92 S118
                      refine WA.all [1, 6, 10] (by kernel_rfl) rfl ⟨?_, ?_, ?_, trivial⟩
                      · skip
                        refine WO.set #[true, true, true, true, false, true, false, true, true, true, false, false, false, false, false, false] (by kernel_rfl) ?_
                        refine WO.ok (OK.ldBox S118 3 62 22 0 (.slice ra lx.length rc) (by kernel_rfl) rfl (by kernel_rfl)) ?_
                        refine WB.mk (S118.sub (.cons _ (.cons _ (.cons _ (.cons _ (.slnil)))))) ?_
                        refine WA.weaken (env' := [(0, .slice la len cap), (1, .int .i64 slope), (2, .int .i64 x), (7, .pointer (some ⟨b1, 0, none⟩)), (35, .slice la len cap), (36, .int .i64 (len : Int)), (37, .int .i64 i), (62, .slice ra lx.length rc), (64, .slice (some ⟨bd3, 0, none⟩) 1 1), (66, .pointer (some ⟨b1, 1, none⟩)), (70, .int .i64 (slope * (l.getD (i).toNat 0)))]) (by kernel_rfl) ?_
                        exact W41 bd3 w92 S118
                      · skip
                        refine WO.set #[true, false, true, true, false, true, true, true, true, true, false, false, false, false, false, false] (by kernel_rfl) ?_
                        refine WO.ok (OK.ldBox S118 3 67 22 1 (.slice rb ly.length rd) (by kernel_rfl) rfl (by kernel_rfl)) ?_
                        refine WB.mk (S118.sub (.cons _ (.cons _ (.cons _ (.cons _ (.slnil)))))) ?_
                        refine WA.weaken (env' := [(0, .slice la len cap), (1, .int .i64 slope), (2, .int .i64 x), (7, .pointer (some ⟨b1, 0, none⟩)), (35, .slice la len cap), (36, .int .i64 (len : Int)), (37, .int .i64 i), (61, .pointer (some ⟨b1, 0, none⟩)), (64, .slice (some ⟨bd3, 0, none⟩) 1 1), (67, .slice rb ly.length rd), (70, .int .i64 (slope * (l.getD (i).toNat 0)))]) (by kernel_rfl) ?_
                        exact W40 bd3 w92 S118
                      · skip
                        refine WO.set #[true, false, true, true, false, true, false, true, true, true, true, false, false, false, false, false] (by kernel_rfl) ?_
                        refine WO.newSlice S118 71 1 [.int .i64 (slope * (l.getD (i).toNat 0))] 3 (by kernel_rfl) ?_
                        intro bd10 w93 S119
                        refine WB.mk (S119.sub (.cons _ (.cons _ (.cons _ (.cons _ (.cons _ (.slnil))))))) ?_
                        refine WA.weaken (env' := [(0, .slice la len cap), (1, .int .i64 slope), (2, .int .i64 x), (7, .pointer (some ⟨b1, 0, none⟩)), (35, .slice la len cap), (36, .int .i64 (len : Int)), (37, .int .i64 i), (61, .pointer (some ⟨b1, 0, none⟩)), (64, .slice (some ⟨bd3, 0, none⟩) 1 1), (66, .pointer (some ⟨b1, 1, none⟩)), (71, .slice (some ⟨bd10, 0, none⟩) 1 1)]) (by kernel_rfl) ?_
                        have S120 : Sep w [box bd10 [.int .i64 (slope * (l.getD (i).toNat 0))] 3, box bd3 [.int .i64 (l.getD (i).toNat 0)] 3, rowOf encI ra rc 3 1 lx, rowOf encI rb rd 3 1 ly, box b1 [.slice ra lx.length rc, .slice rb ly.length rd] 24] w93 := S119.front 0 rfl
                        have S121 : Sep w [box bd3 [.int .i64 (l.getD (i).toNat 0)] 3, box bd10 [.int .i64 (slope * (l.getD (i).toNat 0))] 3, rowOf encI ra rc 3 1 lx, rowOf encI rb rd 3 1 ly, box b1 [.slice ra lx.length rc, .slice rb ly.length rd] 24] w93 := S120.front 1 rfl
                        exact W37 bd10 bd3 w93 S121
                    have W44 : ∀ (w94 : World), Sep w [rowOf encI ra rc 3 1 lx, rowOf encI rb rd 3 1 ly, box b1 [.slice ra lx.length rc, .slice rb ly.length rd] 24] w94 → WA Tryd.prog 9 158 R K9_23 (fun w_ => Sep w [] w_) 9 #[true, false, true, false, false, true, true, true, true, true, false, false, false, false, false, false] [(0, .slice la len cap), (1, .int .i64 slope), (2, .int .i64 x), (7, .pointer (some ⟨b1, 0, none⟩)), (35, .slice la len cap), (36, .int .i64 (len : Int)), (37, .int .i64 i), (61, .pointer (some ⟨b1, 0, none⟩)), (63, .int .i64 (l.getD (i).toNat 0)), (67, .slice rb ly.length rd), (70, .int .i64 (slope * (l.getD (i).toNat 0)))] w94 := by
                      intro w94 S122
                      refine WA.all [1, 3, 10] (by kernel_rfl) rfl ⟨?_, ?_, ?_, trivial⟩
                      · skip
                        refine WO.set #[true, true, true, false, false, true, true, true, true, true, false, false, false, false, false, false] (by kernel_rfl) ?_
                        refine WO.ok (OK.ldBox S122 2 62 22 0 (.slice ra lx.length rc) (by kernel_rfl) rfl (by kernel_rfl)) ?_
                        refine WB.mk (S122.sub (.cons _ (.cons _ (.cons _ (.slnil))))) ?_
                        refine WA.weaken (env' := [(0, .slice la len cap), (1, .int .i64 slope), (2, .int .i64 x), (7, .pointer (some ⟨b1, 0, none⟩)), (35, .slice la len cap), (36, .int .i64 (len : Int)), (37, .int .i64 i), (62, .slice ra lx.length rc), (63, .int .i64 (l.getD (i).toNat 0)), (67, .slice rb ly.length rd), (70, .int .i64 (slope * (l.getD (i).toNat 0)))]) (by kernel_rfl) ?_
                        exact W39 w94 S122
                      · skip
                        refine WO.set #[true, false, true, true, false, true, true, true, true, true, false, false, false, false, false, false] (by kernel_rfl) ?_
                        refine WO.newSlice S122 64 1 [.int .i64 (l.getD (i).toNat 0)] 3 (by kernel_rfl) ?_
                        intro bd3 w95 S123
                        refine WB.mk (S123.sub (.cons _ (.cons _ (.cons _ (.cons _ (.slnil)))))) ?_
                        refine WA.weaken (env' := [(0, .slice la len cap), (1, .int .i64 slope), (2, .int .i64 x), (7, .pointer (some ⟨b1, 0, none⟩)), (35, .slice la len cap), (36, .int .i64 (len : Int)), (37, .int .i64 i), (61, .pointer (some ⟨b1, 0, none⟩)), (64, .slice (some ⟨bd3, 0, none⟩) 1 1), (67, .slice rb ly.length rd), (70, .int .i64 (slope * (l.getD (i).toNat 0)))]) (by kernel_rfl) ?_
                        exact W40 bd3 w95 S123
                      · skip
                        refine WO.set #[true, false, true, false, false, true, true, true, true, true, true, false, false, false, false, false] (by kernel_rfl) ?_
                        refine WO.newSlice S122 71 1 [.int .i64 (slope * (l.getD (i).toNat 0))] 3 (by kernel_rfl) ?_
                        intro bd10 w96 S124
                        refine WB.mk (S124.sub (.cons _ (.cons _ (.cons _ (.cons _ (.slnil)))))) ?_
                        refine WA.weaken (env' := [(0, .slice la len cap), (1, .int .i64 slope), (2, .int .i64 x), (7, .pointer (some ⟨b1, 0, none⟩)), (35, .slice la len cap), (36, .int .i64 (len : Int)), (37, .int .i64 i), (61, .pointer (some ⟨b1, 0, none⟩)), (63, .int .i64 (l.getD (i).toNat 0)), (67, .slice rb ly.length rd), (71, .slice (some ⟨bd10, 0, none⟩) 1 1)]) (by kernel_rfl) ?_
                        exact W38 bd10 w96 S124
                    have W45 : ∀ (bd10 : Nat) (w97 : World), Sep w [box bd10 [.int .i64 (slope * (l.getD (i).toNat 0))] 3, rowOf encI ra rc 3 1 lx, rowOf encI rb rd 3 1 ly, box b1 [.slice ra lx.length rc, .slice rb ly.length rd] 24] w97 → WA Tryd.prog 9 158 R K9_23 (fun w_ => Sep w [] w_) 9 #[true, false, true, false, false, true, false, true, true, true, true, false, false, false, false, false] [(0, .slice la len cap), (1, .int .i64 slope), (2, .int .i64 x), (7, .pointer (some ⟨b1, 0, none⟩)), (35, .slice la len cap), (36, .int .i64 (len : Int)), (37, .int .i64 i), (61, .pointer (some ⟨b1, 0, none⟩)), (63, .int .i64 (l.getD (i).toNat 0)), (66, .pointer (some ⟨b1, 1, none⟩)), (71, .slice (some ⟨bd10, 0, none⟩) 1 1)] w97 := by
                      intro bd10 w97 S125
                      refine WA.all [1, 3, 6] (by kernel_rfl) rfl ⟨?_, ?_, ?_, trivial⟩
                      · skip
                        refine WO.set #[true, true, true, false, false, true, false, true, true, true, true, false, false, false, false, false] (by kernel_rfl) ?_
                        refine WO.ok (OK.ldBox S125 3 62 22 0 (.slice ra lx.length rc) (by kernel_rfl) rfl (by kernel_rfl)) ?_
                        refine WB.mk (S125.sub (.cons _ (.cons _ (.cons _ (.cons _ (.slnil)))))) ?_
                        refine WA.weaken (env' := [(0, .slice la len cap), (1, .int .i64 slope), (2, .int .i64 x), (7, .pointer (some ⟨b1, 0, none⟩)), (35, .slice la len cap), (36, .int .i64 (len : Int)), (37, .int .i64 i), (62, .slice ra lx.length rc), (63, .int .i64 (l.getD (i).toNat 0)), (66, .pointer (some ⟨b1, 1, none⟩)), (71, .slice (some ⟨bd10, 0, none⟩) 1 1)]) (by kernel_rfl) ?_
                        exact W36 bd10 w97 S125
                      · skip
                        refine WO.set #[true, false, true, true, false, true, false, true, true, true, true, false, false, false, false, false] (by kernel_rfl) ?_
                        refine WO.newSlice S125 64 1 [.int .i64 (l.getD (i).toNat 0)] 3 (by kernel_rfl) ?_
                        intro bd3 w98 S126
                        refine WB.mk (S126.sub (.cons _ (.cons _ (.cons _ (.cons _ (.cons _ (.slnil))))))) ?_
                        refine WA.weaken (env' := [(0, .slice la len cap), (1, .int .i64 slope), (2, .int .i64 x), (7, .pointer (some ⟨b1, 0, none⟩)), (35, .slice la len cap), (36, .int .i64 (len : Int)), (37, .int .i64 i), (61, .pointer (some ⟨b1, 0, none⟩)), (64, .slice (some ⟨bd3, 0, none⟩) 1 1), (66, .pointer (some ⟨b1, 1, none⟩)), (71, .slice (some ⟨bd10, 0, none⟩) 1 1)]) (by kernel_rfl) ?_
                        exact W37 bd10 bd3 w98 S126
                      · skip
                        refine WO.set #[true, false, true, false, false, true, true, true, true, true, true, false, false, false, false, false] (by kernel_rfl) ?_
                        refine WO.ok (OK.ldBox S125 3 67 22 1 (.slice rb ly.length rd) (by kernel_rfl) rfl (by kernel_rfl)) ?_
                        refine WB.mk (S125.sub (.cons _ (.cons _ (.cons _ (.cons _ (.slnil)))))) ?_
                        refine WA.weaken (env' := [(0, .slice la len cap), (1, .int .i64 slope), (2, .int .i64 x), (7, .pointer (some ⟨b1, 0, none⟩)), (35, .slice la len cap), (36, .int .i64 (len : Int)), (37, .int .i64 i), (61, .pointer (some ⟨b1, 0, none⟩)), (63, .int .i64 (l.getD (i).toNat 0)), (67, .slice rb ly.length rd), (71, .slice (some ⟨bd10, 0, none⟩) 1 1)]) (by kernel_rfl) ?_
                        exact W38 bd10 w97 S125
                    have W46 : ∀ (w99 : World), Sep w [rowOf encI ra rc 3 1 lx, rowOf encI rb rd 3 1 ly, box b1 [.slice ra lx.length rc, .slice rb ly.length rd] 24] w99 → WA Tryd.prog 9 158 R K9_23 (fun w_ => Sep w [] w_) 10 #[true, false, true, false, false, true, false, true, true, true, false, false, false, false, false, false] [(0, .slice la len cap), (1, .int .i64 slope), (2, .int .i64 x), (7, .pointer (some ⟨b1, 0, none⟩)), (35, .slice la len cap), (36, .int .i64 (len : Int)), (37, .int .i64 i), (61, .pointer (some ⟨b1, 0, none⟩)), (63, .int .i64 (l.getD (i).toNat 0)), (66, .pointer (some ⟨b1, 1, none⟩)), (70, .int .i64 (slope * (l.getD (i).toNat 0)))] w99 := by
                      intro w99 S127
                      refine WA.all [1, 3, 6, 10] (by kernel_rfl) rfl ⟨?_, ?_, ?_, ?_, trivial⟩
                      · skip
                        refine WO.set #[true, true, true, false, false, true, false, true, true, true, false, false, false, false, false, false] (by kernel_rfl) ?_
                        refine WO.ok (OK.ldBox S127 2 62 22 0 (.slice ra lx.length rc) (by kernel_rfl) rfl (by kernel_rfl)) ?_
                        refine WB.mk (S127.sub (.cons _ (.cons _ (.cons _ (.slnil))))) ?_
                        refine WA.weaken (env' := [(0, .slice la len cap), (1, .int .i64 slope), (2, .int .i64 x), (7, .pointer (some ⟨b1, 0, none⟩)), (35, .slice la len cap), (36, .int .i64 (len : Int)), (37, .int .i64 i), (62, .slice ra lx.length rc), (63, .int .i64 (l.getD (i).toNat 0)), (66, .pointer (some ⟨b1, 1, none⟩)), (70, .int .i64 (slope * (l.getD (i).toNat 0)))]) (by kernel_rfl) ?_
                        exact W42 w99 S127
                      · skip
                        refine WO.set #[true, false, true, true, false, true, false, true, true, true, false, false, false, false, false, false] (by kernel_rfl) ?_
                        refine WO.newSlice S127 64 1 [.int .i64 (l.getD (i).toNat 0)] 3 (by kernel_rfl) ?_
                        intro bd3 w100 S128
                        refine WB.mk (S128.sub (.cons _ (.cons _ (.cons _ (.cons _ (.slnil)))))) ?_
                        refine WA.weaken (env' := [(0, .slice la len cap), (1, .int .i64 slope), (2, .int .i64 x), (7, .pointer (some ⟨b1, 0, none⟩)), (35, .slice la len cap), (36, .int .i64 (len : Int)), (37, .int .i64 i), (61, .pointer (some ⟨b1, 0, none⟩)), (64, .slice (some ⟨bd3, 0, none⟩) 1 1), (66, .pointer (some ⟨b1, 1, none⟩)), (70, .int .i64 (slope * (l.getD (i).toNat 0)))]) (by kernel_rfl) ?_
                        exact W43 bd3 w100 S128
                      · skip
                        refine WO.set #[true, false, true, false, false, true, true, true, true, true, false, false, false, false, false, false] (by kernel_rfl) ?_
                        refine WO.ok (OK.ldBox S127 2 67 22 1 (.slice rb ly.length rd) (by kernel_rfl) rfl (by kernel_rfl)) ?_
                        refine WB.mk (S127.sub (.cons _ (.cons _ (.cons _ (.slnil))))) ?_
                        refine WA.weaken (env' := [(0, .slice la len cap), (1, .int .i64 slope), (2, .int .i64 x), (7, .pointer (some ⟨b1, 0, none⟩)), (35, .slice la len cap), (36, .int .i64 (len : Int)), (37, .int .i64 i), (61, .pointer (some ⟨b1, 0, none⟩)), (63, .int .i64 (l.getD (i).toNat 0)), (67, .slice rb ly.length rd), (70, .int .i64 (slope * (l.getD (i).toNat 0)))]) (by kernel_rfl) ?_
                        exact W44 w99 S127
                      · skip
                        refine WO.set #[true, false, true, false, false, true, false, true, true, true, true, false, false, false, false, false] (by kernel_rfl) ?_
                        refine WO.newSlice S127 71 1 [.int .i64 (slope * (l.getD (i).toNat 0))] 3 (by kernel_rfl) ?_
                        intro bd10 w101 S129
                        refine WB.mk (S129.sub (.cons _ (.cons _ (.cons _ (.cons _ (.slnil)))))) ?_
                        refine WA.weaken (env' := [(0, .slice la len cap), (1, .int .i64 slope), (2, .int .i64 x), (7, .pointer (some ⟨b1, 0, none⟩)), (35, .slice la len cap), (36, .int .i64 (len : Int)), (37, .int .i64 i), (61, .pointer (some ⟨b1, 0, none⟩)), (63, .int .i64 (l.getD (i).toNat 0)), (66, .pointer (some ⟨b1, 1, none⟩)), (71, .slice (some ⟨bd10, 0, none⟩) 1 1)]) (by kernel_rfl) ?_
                        exact W45 bd10 w101 S129
                    refine J.drawAny (fun w_ => Sep w [] w_) S6 16 #[false, false, false, false, false, false, false, false, false, false, false, false, false, false, false, false] Tryd.mixed (by kernel_rfl) (by kernel_rfl) (by kernel_rfl) ?_
                    intro w102 S130
                    refine WB.mk (S130.sub (.cons _ (.cons _ (.cons _ (.slnil))))) ?_
                    refine WA.take 0 61 (.pointer (some ⟨b1, 0, none⟩)) #[true, false, false, false, false, false, false, false, false, false, false, false, false, false, false, false] (by kernel_rfl) (by kernel_rfl) (by kernel_rfl) (fun _ _ => by kernel_rfl) (by kernel_rfl) ?_
                    refine WA.take 2 63 (.int .i64 (l.getD (i).toNat 0)) #[true, false, true, false, false, false, false, false, false, false, false, false, false, false, false, false] (by kernel_rfl) (by kernel_rfl) (by kernel_rfl) (fun _ _ => by kernel_rfl) (by kernel_rfl) ?_
                    refine WA.take 5 66 (.pointer (some ⟨b1, 1, none⟩)) #[true, false, true, false, false, true, false, false, false, false, false, false, false, false, false, false] (by kernel_rfl) (by kernel_rfl) (by kernel_rfl) (fun _ _ => by kernel_rfl) (by kernel_rfl) ?_
                    refine WA.take 7 68 (.int .i64 slope) #[true, false, true, false, false, true, false, true, false, false, false, false, false, false, false, false] (by kernel_rfl) (by kernel_rfl) (by kernel_rfl) (fun _ _ => by kernel_rfl) (by kernel_rfl) ?_
                    refine WA.take 8 69 (.int .i64 (l.getD (i).toNat 0)) #[true, false, true, false, false, true, false, true, true, false, false, false, false, false, false, false] (by kernel_rfl) (by kernel_rfl) (by kernel_rfl) (fun _ _ => by kernel_rfl) (by kernel_rfl) ?_
                    refine WA.take 9 70 (.int .i64 (IntKind.wrap .i64 (slope * (l.getD (i).toNat 0)))) #[true, false, true, false, false, true, false, true, true, true, false, false, false, false, false, false] (by kernel_rfl) (by kernel_rfl) (by kernel_rfl) (fun _ _ => by kernel_rfl) (by kernel_rfl) ?_
                    have hpk := prod200 (s := slope) (k := l.getD (i).toNat 0) (by omega) (by omega)
                    refine WA.head (.int .i64 (slope * (l.getD (i).toNat 0))) (congrArg (Value.int .i64) (IntWalk.i64_in _ (by omega))) ?_
                    refine WA.weaken (env' := [(0, .slice la len cap), (1, .int .i64 slope), (2, .int .i64 x), (7, .pointer (some ⟨b1, 0, none⟩)), (35, .slice la len cap), (36, .int .i64 (len : Int)), (37, .int .i64 i), (61, .pointer (some ⟨b1, 0, none⟩)), (63, .int .i64 (l.getD (i).toNat 0)), (66, .pointer (some ⟨b1, 1, none⟩)), (70, .int .i64 (slope * (l.getD (i).toNat 0)))]) (by kernel_rfl) ?_
                    exact W46 w102 S130
            · skip
              refine J.head (.bool false) (congrArg Value.bool (decide_eq_false fk5)) ?_
              refine J.run 7 K9_25 [(77, .slice la len cap), (76, .int .i64 x), (7, .pointer (some ⟨b1, 0, none⟩)), (0, .slice la len cap), (1, .int .i64 slope), (2, .int .i64 x)] w4 (by kernel_rfl) ?_
              obtain ⟨p3, hp3, hc3⟩ := hI.at 0 0 (by omega)
              refine J.ok (OK.index 78 22 1 la p3 len 0 0 (p3.add 0) (by kernel_rfl) (by kernel_rfl) hp3 (by omega) (by omega) (by rw [Nat.mul_one])) ?_
              refine J.ok (OK.ldCell 79 3 (p3.add 0) (.int .i64 (l.getD 0 0)) (by kernel_rfl) (by kernel_rfl) (S6.cell hc3)) ?_
              refine J.run 2 K9_26 [(81, .bool (decide (x < (l.getD 0 0)))), (7, .pointer (some ⟨b1, 0, none⟩)), (0, .slice la len cap), (1, .int .i64 slope), (2, .int .i64 x)] w4 (by kernel_rfl) ?_
              by_cases fk10 : x < (l.getD 0 0)
              · skip
                refine J.head (.bool true) (congrArg Value.bool (decide_eq_true fk10)) ?_
                refine J.run 15 K9_27 [(6, .bool true)] w4 (by kernel_rfl) ?_
                refine J.ret Tryd.f9 [.bool true] Tryd.func9 ⟨by kernel_rfl, trivial⟩ ?_
                refine hR _ _ ?_
                exact ⟨rfl, S6.nil⟩
              · skip
                refine J.head (.bool false) (congrArg Value.bool (decide_eq_false fk10)) ?_
                refine J.run 5 K9_28 [(86, .int .i64 (IntKind.wrap .i64 ((len : Int) - 1))), (83, .slice la len cap), (82, .int .i64 x), (81, .bool false), (7, .pointer (some ⟨b1, 0, none⟩)), (0, .slice la len cap), (1, .int .i64 slope), (2, .int .i64 x)] w4 (by kernel_rfl) ?_
                refine J.head (.int .i64 ((len : Int) - 1)) (congrArg (Value.int .i64) (IntWalk.i64_in _ (by omega))) ?_
                obtain ⟨p4, hp4, hc4⟩ := hI.at 0 ((len : Int) - 1).toNat (by omega)
                refine J.ok (OK.index 87 22 1 la p4 len ((len : Int) - 1).toNat ((len : Int) - 1) (p4.add ((len : Int) - 1).toNat) (by kernel_rfl) (by kernel_rfl) hp4 (by omega) (by omega) (by rw [Nat.mul_one])) ?_
                refine J.ok (OK.ldCell 88 3 (p4.add ((len : Int) - 1).toNat) (.int .i64 (l.getD ((len : Int) - 1).toNat 0)) (by kernel_rfl) (by kernel_rfl) (S6.cell hc4)) ?_
                refine J.run 3 K9_29 [(90, .bool (decide (x ≥ (l.getD ((len : Int) - 1).toNat 0)))), (7, .pointer (some ⟨b1, 0, none⟩)), (0, .slice la len cap), (1, .int .i64 slope), (2, .int .i64 x)] w4 (by kernel_rfl) ?_
                by_cases fk11 : x ≥ (l.getD ((len : Int) - 1).toNat 0)
                · skip
                  refine J.head (.bool true) (congrArg Value.bool (decide_eq_true fk11)) ?_
                  refine J.run 5 K9_30 [(6, .bool true)] w4 (by kernel_rfl) ?_
                  refine J.ret Tryd.f9 [.bool true] Tryd.func9 ⟨by kernel_rfl, trivial⟩ ?_
                  refine hR _ _ ?_
                  exact ⟨rfl, S6.nil⟩
                · skip
                  refine J.head (.bool false) (congrArg Value.bool (decide_eq_false fk11)) ?_
                  refine J.run 4 K9_31 [(7, .pointer (some ⟨b1, 0, none⟩)), (0, .slice la len cap), (1, .int .i64 slope), (2, .int .i64 x)] w4 (by kernel_rfl) ?_
                  refine J.ok (OK.ldBox S6 2 92 24 0 (.agg #[.slice ra lx.length rc, .slice rb ly.length rd]) (by kernel_rfl) rfl (by kernel_rfl)) ?_
                  have hL : Lin (⟨ra, lx.length, rc, lx, rb, ly.length, rd, ly⟩ : Crv) l slope := lin_mk (lx := lx) (ly := ly) (i := i) rfl rfl rfl rfl (by omega) hlx hly (by omega) hq (by omega)
                  have hsl : -100 ≤ slope ∧ slope ≤ 100 := by omega
                  have hlen2 : l.length - 1 = ((len : Int) - 1).toNat := by omega
                  have hx0 : l.getD 0 0 ≤ x := by omega
                  have hx1 : x < l.getD (l.length - 1) 0 := by rw [hlen2]; omega
                  have hxb0 := hL.hb 0 (by omega)
                  have hxb1 := hL.hb (l.length - 1) (by omega)
                  have hpx := prod200 (s := slope) (k := x) (by omega) (by omega)
                  have hpx2 := prod200 (s := 2 * slope) (k := x) (by omega) (by omega)
                  have hax := hL.at hx0 hx1
                  refine J.callF 93 25 #[.agg #[.slice ra lx.length rc, .slice rb ly.length rd], .int .i64 2, .int .i64 1] hb25 (by kernel_rfl) (cscale_any (⟨ra, lx.length, rc, lx, rb, ly.length, rd, ly⟩ : Crv) 2 1 _ (show crvQ _ (⟨ra, lx.length, rc, lx, rb, ly.length, rd, ly⟩ : Crv) from ⟨⟨(rowOf_cells (S6.nth 0 rfl)).2.2, rowOf_cap (S6.nth 0 rfl)⟩, (row1_ones (S6.nth 0 rfl) _ rfl), by exact (fun y hy => by have := hqx y hy; omega), ⟨(rowOf_cells (S6.nth 1 rfl)).2.2, rowOf_cap (S6.nth 1 rfl)⟩, (row1_ones (S6.nth 1 rfl) _ rfl), by exact (fun y hy => by have := hqy y hy; omega), trivial⟩) (by omega) (by omega)) ?_
                  rintro _ w103 ⟨ra1, rc1, ra2, rc2, rfl, T2⟩
                  have S131 : Sep w [rowOf encI ra2 rc2 3 1 (scY (⟨ra, lx.length, rc, lx, rb, ly.length, rd, ly⟩ : Crv) 2 1), rowOf encI ra1 rc1 3 1 (scX (⟨ra, lx.length, rc, lx, rb, ly.length, rd, ly⟩ : Crv) 2 1), rowOf encI ra rc 3 1 lx, rowOf encI rb rd 3 1 ly, box b1 [.slice ra lx.length rc, .slice rb ly.length rd] 24] w103 := S6.trans T2
                  refine J.run 3 K9_32 [(95, .int .i64 (scE (⟨ra, lx.length, rc, lx, rb, ly.length, rd, ly⟩ : Crv) 2 1)), (94, .agg #[.slice ra1 ((scX (⟨ra, lx.length, rc, lx, rb, ly.length, rd, ly⟩ : Crv) 2 1).length) rc1, .slice ra2 ((scY (⟨ra, lx.length, rc, lx, rb, ly.length, rd, ly⟩ : Crv) 2 1).length) rc2]), (7, .pointer (some ⟨b1, 0, none⟩)), (0, .slice la len cap), (1, .int .i64 slope), (2, .int .i64 x)] w103 (by kernel_rfl) ?_
                  refine J.new S131 10 [.slice none 0 0, .slice none 0 0] 24 (by kernel_rfl) ?_
                  intro b2 w104 S132
                  refine J.stBox S132 0 24 0 (.agg #[.slice ra1 ((scX (⟨ra, lx.length, rc, lx, rb, ly.length, rd, ly⟩ : Crv) 2 1).length) rc1, .slice ra2 ((scY (⟨ra, lx.length, rc, lx, rb, ly.length, rd, ly⟩ : Crv) 2 1).length) rc2]) [.slice ra1 ((scX (⟨ra, lx.length, rc, lx, rb, ly.length, rd, ly⟩ : Crv) 2 1).length) rc1, .slice ra2 ((scY (⟨ra, lx.length, rc, lx, rb, ly.length, rd, ly⟩ : Crv) 2 1).length) rc2] [box b2 [.slice ra1 ((scX (⟨ra, lx.length, rc, lx, rb, ly.length, rd, ly⟩ : Crv) 2 1).length) rc1, .slice ra2 ((scY (⟨ra, lx.length, rc, lx, rb, ly.length, rd, ly⟩ : Crv) 2 1).length) rc2] 24, rowOf encI ra2 rc2 3 1 (scY (⟨ra, lx.length, rc, lx, rb, ly.length, rd, ly⟩ : Crv) 2 1), rowOf encI ra1 rc1 3 1 (scX (⟨ra, lx.length, rc, lx, rb, ly.length, rd, ly⟩ : Crv) 2 1), rowOf encI ra rc 3 1 lx, rowOf encI rb rd 3 1 ly, box b1 [.slice ra lx.length rc, .slice rb ly.length rd] 24] (by kernel_rfl) rfl (by kernel_rfl) (by kernel_rfl) rfl ?_
                  intro w105 S133
                  refine J.run 4 K9_33 [(11, .int .i64 (scE (⟨ra, lx.length, rc, lx, rb, ly.length, rd, ly⟩ : Crv) 2 1)), (10, .pointer (some ⟨b2, 0, none⟩)), (7, .pointer (some ⟨b1, 0, none⟩)), (0, .slice la len cap), (1, .int .i64 slope), (2, .int .i64 x)] w105 (by kernel_rfl) ?_
                  refine J.ok (OK.ldBox S133 5 97 24 0 (.agg #[.slice ra lx.length rc, .slice rb ly.length rd]) (by kernel_rfl) rfl (by kernel_rfl)) ?_
                  refine J.run 1 K9_34 [(98, .slice la len cap), (97, .agg #[.slice ra lx.length rc, .slice rb ly.length rd]), (11, .int .i64 (scE (⟨ra, lx.length, rc, lx, rb, ly.length, rd, ly⟩ : Crv) 2 1)), (10, .pointer (some ⟨b2, 0, none⟩)), (7, .pointer (some ⟨b1, 0, none⟩)), (1, .int .i64 slope), (2, .int .i64 x)] w105 (by kernel_rfl) ?_
                  refine J.callF 99 27 #[.agg #[.slice ra lx.length rc, .slice rb ly.length rd], .slice la len cap] hb27 (by kernel_rfl) (csample_any (⟨ra, lx.length, rc, lx, rb, ly.length, rd, ly⟩ : Crv) la len cap l _ (show crvQ _ (⟨ra, lx.length, rc, lx, rb, ly.length, rd, ly⟩ : Crv) from ⟨⟨(rowOf_cells (S133.nth 3 rfl)).2.2, rowOf_cap (S133.nth 3 rfl)⟩, (row1_ones (S133.nth 3 rfl) _ rfl), by exact (fun y hy => by have := hqx y hy; omega), ⟨(rowOf_cells (S133.nth 4 rfl)).2.2, rowOf_cap (S133.nth 4 rfl)⟩, (row1_ones (S133.nth 4 rfl) _ rfl), by exact (fun y hy => by have := hqy y hy; omega), trivial⟩) ((hI.sep S133)) (by omega)) ?_
                  rintro _ w106 ⟨ra3, rc3, ra4, rc4, rfl, T3⟩
                  have S134 : Sep w [rowOf encI ra4 rc4 3 1 (saY (⟨ra, lx.length, rc, lx, rb, ly.length, rd, ly⟩ : Crv) l), rowOf encI ra3 rc3 3 1 (saX (⟨ra, lx.length, rc, lx, rb, ly.length, rd, ly⟩ : Crv) l), box b2 [.slice ra1 ((scX (⟨ra, lx.length, rc, lx, rb, ly.length, rd, ly⟩ : Crv) 2 1).length) rc1, .slice ra2 ((scY (⟨ra, lx.length, rc, lx, rb, ly.length, rd, ly⟩ : Crv) 2 1).length) rc2] 24, rowOf encI ra2 rc2 3 1 (scY (⟨ra, lx.length, rc, lx, rb, ly.length, rd, ly⟩ : Crv) 2 1), rowOf encI ra1 rc1 3 1 (scX (⟨ra, lx.length, rc, lx, rb, ly.length, rd, ly⟩ : Crv) 2 1), rowOf encI ra rc 3 1 lx, rowOf encI rb rd 3 1 ly, box b1 [.slice ra lx.length rc, .slice rb ly.length rd] 24] w106 := S133.trans T3
                  refine J.run 3 K9_35 [(101, .int .i64 (saE (⟨ra, lx.length, rc, lx, rb, ly.length, rd, ly⟩ : Crv) l)), (100, .agg #[.slice ra3 ((saX (⟨ra, lx.length, rc, lx, rb, ly.length, rd, ly⟩ : Crv) l).length) rc3, .slice ra4 ((saY (⟨ra, lx.length, rc, lx, rb, ly.length, rd, ly⟩ : Crv) l).length) rc4]), (11, .int .i64 (scE (⟨ra, lx.length, rc, lx, rb, ly.length, rd, ly⟩ : Crv) 2 1)), (10, .pointer (some ⟨b2, 0, none⟩)), (7, .pointer (some ⟨b1, 0, none⟩)), (1, .int .i64 slope), (2, .int .i64 x)] w106 (by kernel_rfl) ?_
                  refine J.new S134 12 [.slice none 0 0, .slice none 0 0] 24 (by kernel_rfl) ?_
                  intro b3 w107 S135
                  refine J.stBox S135 0 24 0 (.agg #[.slice ra3 ((saX (⟨ra, lx.length, rc, lx, rb, ly.length, rd, ly⟩ : Crv) l).length) rc3, .slice ra4 ((saY (⟨ra, lx.length, rc, lx, rb, ly.length, rd, ly⟩ : Crv) l).length) rc4]) [.slice ra3 ((saX (⟨ra, lx.length, rc, lx, rb, ly.length, rd, ly⟩ : Crv) l).length) rc3, .slice ra4 ((saY (⟨ra, lx.length, rc, lx, rb, ly.length, rd, ly⟩ : Crv) l).length) rc4] [box b3 [.slice ra3 ((saX (⟨ra, lx.length, rc, lx, rb, ly.length, rd, ly⟩ : Crv) l).length) rc3, .slice ra4 ((saY (⟨ra, lx.length, rc, lx, rb, ly.length, rd, ly⟩ : Crv) l).length) rc4] 24, rowOf encI ra4 rc4 3 1 (saY (⟨ra, lx.length, rc, lx, rb, ly.length, rd, ly⟩ : Crv) l), rowOf encI ra3 rc3 3 1 (saX (⟨ra, lx.length, rc, lx, rb, ly.length, rd, ly⟩ : Crv) l), box b2 [.slice ra1 ((scX (⟨ra, lx.length, rc, lx, rb, ly.length, rd, ly⟩ : Crv) 2 1).length) rc1, .slice ra2 ((scY (⟨ra, lx.length, rc, lx, rb, ly.length, rd, ly⟩ : Crv) 2 1).length) rc2] 24, rowOf encI ra2 rc2 3 1 (scY (⟨ra, lx.length, rc, lx, rb, ly.length, rd, ly⟩ : Crv) 2 1), rowOf encI ra1 rc1 3 1 (scX (⟨ra, lx.length, rc, lx, rb, ly.length, rd, ly⟩ : Crv) 2 1), rowOf encI ra rc 3 1 lx, rowOf encI rb rd 3 1 ly, box b1 [.slice ra lx.length rc, .slice rb ly.length rd] 24] (by kernel_rfl) rfl (by kernel_rfl) (by kernel_rfl) rfl ?_
                  intro w108 S136
                  refine J.run 4 K9_36 [(13, .int .i64 (saE (⟨ra, lx.length, rc, lx, rb, ly.length, rd, ly⟩ : Crv) l)), (12, .pointer (some ⟨b3, 0, none⟩)), (11, .int .i64 (scE (⟨ra, lx.length, rc, lx, rb, ly.length, rd, ly⟩ : Crv) 2 1)), (10, .pointer (some ⟨b2, 0, none⟩)), (7, .pointer (some ⟨b1, 0, none⟩)), (1, .int .i64 slope), (2, .int .i64 x)] w108 (by kernel_rfl) ?_
                  refine J.ok (OK.ldBox S136 8 103 24 0 (.agg #[.slice ra lx.length rc, .slice rb ly.length rd]) (by kernel_rfl) rfl (by kernel_rfl)) ?_
                  refine J.run 1 K9_37 [(104, .int .i64 x), (103, .agg #[.slice ra lx.length rc, .slice rb ly.length rd]), (13, .int .i64 (saE (⟨ra, lx.length, rc, lx, rb, ly.length, rd, ly⟩ : Crv) l)), (12, .pointer (some ⟨b3, 0, none⟩)), (11, .int .i64 (scE (⟨ra, lx.length, rc, lx, rb, ly.length, rd, ly⟩ : Crv) 2 1)), (10, .pointer (some ⟨b2, 0, none⟩)), (7, .pointer (some ⟨b1, 0, none⟩)), (1, .int .i64 slope), (2, .int .i64 x)] w108 (by kernel_rfl) ?_
                  refine J.callF 105 19 #[.agg #[.slice ra lx.length rc, .slice rb ly.length rd], .int .i64 x] hb19 (by kernel_rfl) (cAt_any (⟨ra, lx.length, rc, lx, rb, ly.length, rd, ly⟩ : Crv) x _ (show crvQ _ (⟨ra, lx.length, rc, lx, rb, ly.length, rd, ly⟩ : Crv) from ⟨⟨(rowOf_cells (S136.nth 6 rfl)).2.2, rowOf_cap (S136.nth 6 rfl)⟩, (row1_ones (S136.nth 6 rfl) _ rfl), by exact (fun y hy => by have := hqx y hy; omega), ⟨(rowOf_cells (S136.nth 7 rfl)).2.2, rowOf_cap (S136.nth 7 rfl)⟩, (row1_ones (S136.nth 7 rfl) _ rfl), by exact (fun y hy => by have := hqy y hy; omega), trivial⟩)) ?_
                  rintro _ w109 ⟨rfl, T4⟩
                  have S137 : Sep w [box b3 [.slice ra3 ((saX (⟨ra, lx.length, rc, lx, rb, ly.length, rd, ly⟩ : Crv) l).length) rc3, .slice ra4 ((saY (⟨ra, lx.length, rc, lx, rb, ly.length, rd, ly⟩ : Crv) l).length) rc4] 24, rowOf encI ra4 rc4 3 1 (saY (⟨ra, lx.length, rc, lx, rb, ly.length, rd, ly⟩ : Crv) l), rowOf encI ra3 rc3 3 1 (saX (⟨ra, lx.length, rc, lx, rb, ly.length, rd, ly⟩ : Crv) l), box b2 [.slice ra1 ((scX (⟨ra, lx.length, rc, lx, rb, ly.length, rd, ly⟩ : Crv) 2 1).length) rc1, .slice ra2 ((scY (⟨ra, lx.length, rc, lx, rb, ly.length, rd, ly⟩ : Crv) 2 1).length) rc2] 24, rowOf encI ra2 rc2 3 1 (scY (⟨ra, lx.length, rc, lx, rb, ly.length, rd, ly⟩ : Crv) 2 1), rowOf encI ra1 rc1 3 1 (scX (⟨ra, lx.length, rc, lx, rb, ly.length, rd, ly⟩ : Crv) 2 1), rowOf encI ra rc 3 1 lx, rowOf encI rb rd 3 1 ly, box b1 [.slice ra lx.length rc, .slice rb ly.length rd] 24] w109 := S136.trans T4
                  clear T4 S136
                  refine J.callF 106 30 #[.int .i64 (atV (⟨ra, lx.length, rc, lx, rb, ly.length, rd, ly⟩ : Crv) x), .int .i64 1, .int .i64 1] hb30 (by kernel_rfl) (div_any (atV (⟨ra, lx.length, rc, lx, rb, ly.length, rd, ly⟩ : Crv) x) 1 1 _ (by omega) (by omega)) ?_
                  rintro _ w110 ⟨rfl, T5⟩
                  have S138 : Sep w [box b3 [.slice ra3 ((saX (⟨ra, lx.length, rc, lx, rb, ly.length, rd, ly⟩ : Crv) l).length) rc3, .slice ra4 ((saY (⟨ra, lx.length, rc, lx, rb, ly.length, rd, ly⟩ : Crv) l).length) rc4] 24, rowOf encI ra4 rc4 3 1 (saY (⟨ra, lx.length, rc, lx, rb, ly.length, rd, ly⟩ : Crv) l), rowOf encI ra3 rc3 3 1 (saX (⟨ra, lx.length, rc, lx, rb, ly.length, rd, ly⟩ : Crv) l), box b2 [.slice ra1 ((scX (⟨ra, lx.length, rc, lx, rb, ly.length, rd, ly⟩ : Crv) 2 1).length) rc1, .slice ra2 ((scY (⟨ra, lx.length, rc, lx, rb, ly.length, rd, ly⟩ : Crv) 2 1).length) rc2] 24, rowOf encI ra2 rc2 3 1 (scY (⟨ra, lx.length, rc, lx, rb, ly.length, rd, ly⟩ : Crv) 2 1), rowOf encI ra1 rc1 3 1 (scX (⟨ra, lx.length, rc, lx, rb, ly.length, rd, ly⟩ : Crv) 2 1), rowOf encI ra rc 3 1 lx, rowOf encI rb rd 3 1 ly, box b1 [.slice ra lx.length rc, .slice rb ly.length rd] 24] w110 := S137.trans T5
                  clear T5 S137
                  have := mdX_bounds (atV (⟨ra, lx.length, rc, lx, rb, ly.length, rd, ly⟩ : Crv) x) 1 1 1
                  refine J.run 11 K9_38 [(111, .bool ((scE (⟨ra, lx.length, rc, lx, rb, ly.length, rd, ly⟩ : Crv) 2 1) == 0)), (15, .int .i64 (mdE (atV (⟨ra, lx.length, rc, lx, rb, ly.length, rd, ly⟩ : Crv) x) 1 1 1)), (14, .int .i64 (mdX (atV (⟨ra, lx.length, rc, lx, rb, ly.length, rd, ly⟩ : Crv) x) 1 1 1)), (13, .int .i64 (saE (⟨ra, lx.length, rc, lx, rb, ly.length, rd, ly⟩ : Crv) l)), (12, .pointer (some ⟨b3, 0, none⟩)), (10, .pointer (some ⟨b2, 0, none⟩)), (7, .pointer (some ⟨b1, 0, none⟩)), (1, .int .i64 slope), (2, .int .i64 x)] w110 (by kernel_rfl) ?_
                  have fk13 : (scE (⟨ra, lx.length, rc, lx, rb, ly.length, rd, ly⟩ : Crv) 2 1) = 0 := (hL.scale hsl).1
                  refine J.head (.bool true) (congrArg Value.bool (beq_iff_eq.2 fk13)) ?_
                  refine J.run 4 K9_39 [(115, .bool ((saE (⟨ra, lx.length, rc, lx, rb, ly.length, rd, ly⟩ : Crv) l) == 0)), (15, .int .i64 (mdE (atV (⟨ra, lx.length, rc, lx, rb, ly.length, rd, ly⟩ : Crv) x) 1 1 1)), (14, .int .i64 (mdX (atV (⟨ra, lx.length, rc, lx, rb, ly.length, rd, ly⟩ : Crv) x) 1 1 1)), (12, .pointer (some ⟨b3, 0, none⟩)), (10, .pointer (some ⟨b2, 0, none⟩)), (7, .pointer (some ⟨b1, 0, none⟩)), (1, .int .i64 slope), (2, .int .i64 x)] w110 (by kernel_rfl) ?_
                  have fk15 : (saE (⟨ra, lx.length, rc, lx, rb, ly.length, rd, ly⟩ : Crv) l) = 0 := hL.sample.1
                  refine J.head (.bool true) (congrArg Value.bool (beq_iff_eq.2 fk15)) ?_
                  refine J.run 4 K9_40 [(119, .bool ((mdE (atV (⟨ra, lx.length, rc, lx, rb, ly.length, rd, ly⟩ : Crv) x) 1 1 1) == 0)), (14, .int .i64 (mdX (atV (⟨ra, lx.length, rc, lx, rb, ly.length, rd, ly⟩ : Crv) x) 1 1 1)), (12, .pointer (some ⟨b3, 0, none⟩)), (10, .pointer (some ⟨b2, 0, none⟩)), (7, .pointer (some ⟨b1, 0, none⟩)), (1, .int .i64 slope), (2, .int .i64 x)] w110 (by kernel_rfl) ?_
                  have fk17 : (mdE (atV (⟨ra, lx.length, rc, lx, rb, ly.length, rd, ly⟩ : Crv) x) 1 1 1) = 0 := (md_same (by omega) (by omega) (by omega)).2
                  refine J.head (.bool true) (congrArg Value.bool (beq_iff_eq.2 fk17)) ?_
                  refine J.run 4 K9_41 [(123, .int .i64 (IntKind.wrap .i64 (slope * x))), (120, .int .i64 (mdX (atV (⟨ra, lx.length, rc, lx, rb, ly.length, rd, ly⟩ : Crv) x) 1 1 1)), (119, .bool true), (12, .pointer (some ⟨b3, 0, none⟩)), (10, .pointer (some ⟨b2, 0, none⟩)), (7, .pointer (some ⟨b1, 0, none⟩)), (1, .int .i64 slope), (2, .int .i64 x)] w110 (by kernel_rfl) ?_
                  refine J.head (.int .i64 (slope * x)) (congrArg (Value.int .i64) (IntWalk.i64_in _ (by omega))) ?_
                  refine J.run 3 K9_42 [(126, .bool ((mdX (atV (⟨ra, lx.length, rc, lx, rb, ly.length, rd, ly⟩ : Crv) x) 1 1 1) == (slope * x))), (12, .pointer (some ⟨b3, 0, none⟩)), (10, .pointer (some ⟨b2, 0, none⟩)), (7, .pointer (some ⟨b1, 0, none⟩)), (1, .int .i64 slope), (2, .int .i64 x)] w110 (by kernel_rfl) ?_
                  have fk19 : (mdX (atV (⟨ra, lx.length, rc, lx, rb, ly.length, rd, ly⟩ : Crv) x) 1 1 1) = (slope * x) := ((md_same (by omega) (by omega) (by omega)).1.trans hax)
                  refine J.head (.bool true) (congrArg Value.bool (beq_iff_eq.2 fk19)) ?_
                  refine J.ok (OK.ldBox S138 8 127 24 0 (.agg #[.slice ra lx.length rc, .slice rb ly.length rd]) (by kernel_rfl) rfl (by kernel_rfl)) ?_
                  refine J.run 1 K9_43 [(128, .int .i64 x), (127, .agg #[.slice ra lx.length rc, .slice rb ly.length rd]), (126, .bool true), (12, .pointer (some ⟨b3, 0, none⟩)), (10, .pointer (some ⟨b2, 0, none⟩)), (7, .pointer (some ⟨b1, 0, none⟩)), (1, .int .i64 slope), (2, .int .i64 x)] w110 (by kernel_rfl) ?_
                  refine J.callF 129 21 #[.agg #[.slice ra lx.length rc, .slice rb ly.length rd], .int .i64 x] hb21 (by kernel_rfl) (cslope_any (⟨ra, lx.length, rc, lx, rb, ly.length, rd, ly⟩ : Crv) x _ (show crvQ _ (⟨ra, lx.length, rc, lx, rb, ly.length, rd, ly⟩ : Crv) from ⟨⟨(rowOf_cells (S138.nth 6 rfl)).2.2, rowOf_cap (S138.nth 6 rfl)⟩, (row1_ones (S138.nth 6 rfl) _ rfl), by exact (fun y hy => by have := hqx y hy; omega), ⟨(rowOf_cells (S138.nth 7 rfl)).2.2, rowOf_cap (S138.nth 7 rfl)⟩, (row1_ones (S138.nth 7 rfl) _ rfl), by exact (fun y hy => by have := hqy y hy; omega), trivial⟩)) ?_
                  rintro _ w111 ⟨rfl, T6⟩
                  have S139 : Sep w [box b3 [.slice ra3 ((saX (⟨ra, lx.length, rc, lx, rb, ly.length, rd, ly⟩ : Crv) l).length) rc3, .slice ra4 ((saY (⟨ra, lx.length, rc, lx, rb, ly.length, rd, ly⟩ : Crv) l).length) rc4] 24, rowOf encI ra4 rc4 3 1 (saY (⟨ra, lx.length, rc, lx, rb, ly.length, rd, ly⟩ : Crv) l), rowOf encI ra3 rc3 3 1 (saX (⟨ra, lx.length, rc, lx, rb, ly.length, rd, ly⟩ : Crv) l), box b2 [.slice ra1 ((scX (⟨ra, lx.length, rc, lx, rb, ly.length, rd, ly⟩ : Crv) 2 1).length) rc1, .slice ra2 ((scY (⟨ra, lx.length, rc, lx, rb, ly.length, rd, ly⟩ : Crv) 2 1).length) rc2] 24, rowOf encI ra2 rc2 3 1 (scY (⟨ra, lx.length, rc, lx, rb, ly.length, rd, ly⟩ : Crv) 2 1), rowOf encI ra1 rc1 3 1 (scX (⟨ra, lx.length, rc, lx, rb, ly.length, rd, ly⟩ : Crv) 2 1), rowOf encI ra rc 3 1 lx, rowOf encI rb rd 3 1 ly, box b1 [.slice ra lx.length rc, .slice rb ly.length rd] 24] w111 := S138.trans T6
                  clear T6 S138
                  refine J.run 2 K9_44 [(131, .agg #[.int .i64 slope, .int .i64 1]), (129, .agg #[.int .i64 (slopeN (⟨ra, lx.length, rc, lx, rb, ly.length, rd, ly⟩ : Crv) x), .int .i64 (slopeD (⟨ra, lx.length, rc, lx, rb, ly.length, rd, ly⟩ : Crv) x)]), (126, .bool true), (12, .pointer (some ⟨b3, 0, none⟩)), (10, .pointer (some ⟨b2, 0, none⟩)), (7, .pointer (some ⟨b1, 0, none⟩)), (1, .int .i64 slope), (2, .int .i64 x)] w111 (by kernel_rfl) ?_
                  refine J.ok (OK.eqS 132 true 46 #[.int .i64 (slopeN (⟨ra, lx.length, rc, lx, rb, ly.length, rd, ly⟩ : Crv) x), .int .i64 (slopeD (⟨ra, lx.length, rc, lx, rb, ly.length, rd, ly⟩ : Crv) x)] #[.int .i64 slope, .int .i64 1] (((slopeN (⟨ra, lx.length, rc, lx, rb, ly.length, rd, ly⟩ : Crv) x) == slope) && (((slopeD (⟨ra, lx.length, rc, lx, rb, ly.length, rd, ly⟩ : Crv) x) == 1) && true)) (by kernel_rfl) (by kernel_rfl) (by kernel_rfl) (((slopeN (⟨ra, lx.length, rc, lx, rb, ly.length, rd, ly⟩ : Crv) x) == slope) && ((slopeD (⟨ra, lx.length, rc, lx, rb, ly.length, rd, ly⟩ : Crv) x) == 1)) (by simp)) ?_
                  refine J.run 2 K9_45 [(134, .bool (((slopeN (⟨ra, lx.length, rc, lx, rb, ly.length, rd, ly⟩ : Crv) x) == slope) && ((slopeD (⟨ra, lx.length, rc, lx, rb, ly.length, rd, ly⟩ : Crv) x) == 1))), (12, .pointer (some ⟨b3, 0, none⟩)), (10, .pointer (some ⟨b2, 0, none⟩)), (7, .pointer (some ⟨b1, 0, none⟩)), (1, .int .i64 slope), (2, .int .i64 x)] w111 (by kernel_rfl) ?_
                  have fk21 : (((slopeN (⟨ra, lx.length, rc, lx, rb, ly.length, rd, ly⟩ : Crv) x) == slope) && ((slopeD (⟨ra, lx.length, rc, lx, rb, ly.length, rd, ly⟩ : Crv) x) == 1)) = true := by rw [(hL.slope hx0 hx1).1, (hL.slope hx0 hx1).2]; simp
                  refine J.head (.bool true) (congrArg Value.bool fk21) ?_
                  refine J.ok (OK.ldBox S139 3 135 24 0 (.agg #[.slice ra1 ((scX (⟨ra, lx.length, rc, lx, rb, ly.length, rd, ly⟩ : Crv) 2 1).length) rc1, .slice ra2 ((scY (⟨ra, lx.length, rc, lx, rb, ly.length, rd, ly⟩ : Crv) 2 1).length) rc2]) (by kernel_rfl) rfl (by kernel_rfl)) ?_
                  refine J.run 1 K9_46 [(136, .int .i64 x), (135, .agg #[.slice ra1 ((scX (⟨ra, lx.length, rc, lx, rb, ly.length, rd, ly⟩ : Crv) 2 1).length) rc1, .slice ra2 ((scY (⟨ra, lx.length, rc, lx, rb, ly.length, rd, ly⟩ : Crv) 2 1).length) rc2]), (134, .bool true), (12, .pointer (some ⟨b3, 0, none⟩)), (7, .pointer (some ⟨b1, 0, none⟩)), (1, .int .i64 slope), (2, .int .i64 x)] w111 (by kernel_rfl) ?_
                  have hL2 : Lin (⟨ra1, (scX (⟨ra, lx.length, rc, lx, rb, ly.length, rd, ly⟩ : Crv) 2 1).length, rc1, scX (⟨ra, lx.length, rc, lx, rb, ly.length, rd, ly⟩ : Crv) 2 1, ra2, (scY (⟨ra, lx.length, rc, lx, rb, ly.length, rd, ly⟩ : Crv) 2 1).length, rc2, scY (⟨ra, lx.length, rc, lx, rb, ly.length, rd, ly⟩ : Crv) 2 1⟩ : Crv) l (2 * slope) := hL.twice hsl rfl rfl rfl rfl
                  have hax2 := hL2.at hx0 hx1
                  refine J.callF 137 19 #[.agg #[.slice ra1 ((scX (⟨ra, lx.length, rc, lx, rb, ly.length, rd, ly⟩ : Crv) 2 1).length) rc1, .slice ra2 ((scY (⟨ra, lx.length, rc, lx, rb, ly.length, rd, ly⟩ : Crv) 2 1).length) rc2], .int .i64 x] hb19 (by kernel_rfl) (cAt_any (⟨ra1, (scX (⟨ra, lx.length, rc, lx, rb, ly.length, rd, ly⟩ : Crv) 2 1).length, rc1, scX (⟨ra, lx.length, rc, lx, rb, ly.length, rd, ly⟩ : Crv) 2 1, ra2, (scY (⟨ra, lx.length, rc, lx, rb, ly.length, rd, ly⟩ : Crv) 2 1).length, rc2, scY (⟨ra, lx.length, rc, lx, rb, ly.length, rd, ly⟩ : Crv) 2 1⟩ : Crv) x _ (show crvQ _ (⟨ra1, (scX (⟨ra, lx.length, rc, lx, rb, ly.length, rd, ly⟩ : Crv) 2 1).length, rc1, scX (⟨ra, lx.length, rc, lx, rb, ly.length, rd, ly⟩ : Crv) 2 1, ra2, (scY (⟨ra, lx.length, rc, lx, rb, ly.length, rd, ly⟩ : Crv) 2 1).length, rc2, scY (⟨ra, lx.length, rc, lx, rb, ly.length, rd, ly⟩ : Crv) 2 1⟩ : Crv) from ⟨⟨(rowOf_cells (S139.nth 5 rfl)).2.2, rowOf_cap (S139.nth 5 rfl)⟩, (row1_ones (S139.nth 5 rfl) _ rfl), by exact hL.scx hsl, ⟨(rowOf_cells (S139.nth 4 rfl)).2.2, rowOf_cap (S139.nth 4 rfl)⟩, (row1_ones (S139.nth 4 rfl) _ rfl), by exact hL.scy hsl, trivial⟩)) ?_
                  rintro _ w112 ⟨rfl, T7⟩
                  have S140 : Sep w [box b3 [.slice ra3 ((saX (⟨ra, lx.length, rc, lx, rb, ly.length, rd, ly⟩ : Crv) l).length) rc3, .slice ra4 ((saY (⟨ra, lx.length, rc, lx, rb, ly.length, rd, ly⟩ : Crv) l).length) rc4] 24, rowOf encI ra4 rc4 3 1 (saY (⟨ra, lx.length, rc, lx, rb, ly.length, rd, ly⟩ : Crv) l), rowOf encI ra3 rc3 3 1 (saX (⟨ra, lx.length, rc, lx, rb, ly.length, rd, ly⟩ : Crv) l), box b2 [.slice ra1 ((scX (⟨ra, lx.length, rc, lx, rb, ly.length, rd, ly⟩ : Crv) 2 1).length) rc1, .slice ra2 ((scY (⟨ra, lx.length, rc, lx, rb, ly.length, rd, ly⟩ : Crv) 2 1).length) rc2] 24, rowOf encI ra2 rc2 3 1 (scY (⟨ra, lx.length, rc, lx, rb, ly.length, rd, ly⟩ : Crv) 2 1), rowOf encI ra1 rc1 3 1 (scX (⟨ra, lx.length, rc, lx, rb, ly.length, rd, ly⟩ : Crv) 2 1), rowOf encI ra rc 3 1 lx, rowOf encI rb rd 3 1 ly, box b1 [.slice ra lx.length rc, .slice rb ly.length rd] 24] w112 := S139.trans T7
                  clear T7 S139
                  refine J.run 2 K9_47 [(139, .int .i64 (IntKind.wrap .i64 (2 * slope))), (137, .int .i64 (atV (⟨ra1, (scX (⟨ra, lx.length, rc, lx, rb, ly.length, rd, ly⟩ : Crv) 2 1).length, rc1, scX (⟨ra, lx.length, rc, lx, rb, ly.length, rd, ly⟩ : Crv) 2 1, ra2, (scY (⟨ra, lx.length, rc, lx, rb, ly.length, rd, ly⟩ : Crv) 2 1).length, rc2, scY (⟨ra, lx.length, rc, lx, rb, ly.length, rd, ly⟩ : Crv) 2 1⟩ : Crv) x)), (134, .bool true), (12, .pointer (some ⟨b3, 0, none⟩)), (7, .pointer (some ⟨b1, 0, none⟩)), (2, .int .i64 x)] w112 (by kernel_rfl) ?_
                  refine J.head (.int .i64 (2 * slope)) (congrArg (Value.int .i64) (IntWalk.i64_in _ (by omega))) ?_
                  refine J.run 2 K9_48 [(141, .int .i64 (IntKind.wrap .i64 ((2 * slope) * x))), (137, .int .i64 (atV (⟨ra1, (scX (⟨ra, lx.length, rc, lx, rb, ly.length, rd, ly⟩ : Crv) 2 1).length, rc1, scX (⟨ra, lx.length, rc, lx, rb, ly.length, rd, ly⟩ : Crv) 2 1, ra2, (scY (⟨ra, lx.length, rc, lx, rb, ly.length, rd, ly⟩ : Crv) 2 1).length, rc2, scY (⟨ra, lx.length, rc, lx, rb, ly.length, rd, ly⟩ : Crv) 2 1⟩ : Crv) x)), (134, .bool true), (12, .pointer (some ⟨b3, 0, none⟩)), (7, .pointer (some ⟨b1, 0, none⟩))] w112 (by kernel_rfl) ?_
                  refine J.head (.int .i64 ((2 * slope) * x)) (congrArg (Value.int .i64) (IntWalk.i64_in _ (by omega))) ?_
                  refine J.run 3 K9_49 [(144, .bool ((atV (⟨ra1, (scX (⟨ra, lx.length, rc, lx, rb, ly.length, rd, ly⟩ : Crv) 2 1).length, rc1, scX (⟨ra, lx.length, rc, lx, rb, ly.length, rd, ly⟩ : Crv) 2 1, ra2, (scY (⟨ra, lx.length, rc, lx, rb, ly.length, rd, ly⟩ : Crv) 2 1).length, rc2, scY (⟨ra, lx.length, rc, lx, rb, ly.length, rd, ly⟩ : Crv) 2 1⟩ : Crv) x) == ((2 * slope) * x))), (12, .pointer (some ⟨b3, 0, none⟩)), (7, .pointer (some ⟨b1, 0, none⟩))] w112 (by kernel_rfl) ?_
                  have fk23 : (atV (⟨ra1, (scX (⟨ra, lx.length, rc, lx, rb, ly.length, rd, ly⟩ : Crv) 2 1).length, rc1, scX (⟨ra, lx.length, rc, lx, rb, ly.length, rd, ly⟩ : Crv) 2 1, ra2, (scY (⟨ra, lx.length, rc, lx, rb, ly.length, rd, ly⟩ : Crv) 2 1).length, rc2, scY (⟨ra, lx.length, rc, lx, rb, ly.length, rd, ly⟩ : Crv) 2 1⟩ : Crv) x) = ((2 * slope) * x) := hax2
                  refine J.head (.bool true) (congrArg Value.bool (beq_iff_eq.2 fk23)) ?_
                  refine J.run 1 K9_50 [(145, .pointer (some ⟨b3, 0, none⟩)), (144, .bool true), (12, .pointer (some ⟨b3, 0, none⟩)), (7, .pointer (some ⟨b1, 0, none⟩))] w112 (by kernel_rfl) ?_
                  refine J.ok (OK.ldBox S140 0 146 22 0 (.slice ra3 ((saX (⟨ra, lx.length, rc, lx, rb, ly.length, rd, ly⟩ : Crv) l).length) rc3) (by kernel_rfl) rfl (by kernel_rfl)) ?_
                  refine J.run 1 K9_51 [(147, .pointer (some ⟨b1, 0, none⟩)), (146, .slice ra3 ((saX (⟨ra, lx.length, rc, lx, rb, ly.length, rd, ly⟩ : Crv) l).length) rc3), (144, .bool true), (12, .pointer (some ⟨b3, 0, none⟩)), (7, .pointer (some ⟨b1, 0, none⟩))] w112 (by kernel_rfl) ?_
                  refine J.ok (OK.ldBox S140 8 148 22 0 (.slice ra lx.length rc) (by kernel_rfl) rfl (by kernel_rfl)) ?_
                  have := rowOf_len (S140.nth 2 rfl)
                  have := rowOf_len (S140.nth 6 rfl)
                  refine J.callF 149 31 #[.slice ra3 ((saX (⟨ra, lx.length, rc, lx, rb, ly.length, rd, ly⟩ : Crv) l).length) rc3, .slice ra lx.length rc] hb31 (by kernel_rfl) (equal_any ra3 ((saX (⟨ra, lx.length, rc, lx, rb, ly.length, rd, ly⟩ : Crv) l).length) rc3 (saX (⟨ra, lx.length, rc, lx, rb, ly.length, rd, ly⟩ : Crv) l) ra lx.length rc lx _ ((row1_ones (S140.nth 2 rfl) ((saX (⟨ra, lx.length, rc, lx, rb, ly.length, rd, ly⟩ : Crv) l).length) (by first | rfl | omega | simp))) ((row1_ones (S140.nth 6 rfl) lx.length (by first | rfl | omega | simp))) (by first | omega | (simp; omega))) ?_
                  rintro _ w113 ⟨rfl, T8⟩
                  have S141 : Sep w [box b3 [.slice ra3 ((saX (⟨ra, lx.length, rc, lx, rb, ly.length, rd, ly⟩ : Crv) l).length) rc3, .slice ra4 ((saY (⟨ra, lx.length, rc, lx, rb, ly.length, rd, ly⟩ : Crv) l).length) rc4] 24, rowOf encI ra4 rc4 3 1 (saY (⟨ra, lx.length, rc, lx, rb, ly.length, rd, ly⟩ : Crv) l), rowOf encI ra3 rc3 3 1 (saX (⟨ra, lx.length, rc, lx, rb, ly.length, rd, ly⟩ : Crv) l), box b2 [.slice ra1 ((scX (⟨ra, lx.length, rc, lx, rb, ly.length, rd, ly⟩ : Crv) 2 1).length) rc1, .slice ra2 ((scY (⟨ra, lx.length, rc, lx, rb, ly.length, rd, ly⟩ : Crv) 2 1).length) rc2] 24, rowOf encI ra2 rc2 3 1 (scY (⟨ra, lx.length, rc, lx, rb, ly.length, rd, ly⟩ : Crv) 2 1), rowOf encI ra1 rc1 3 1 (scX (⟨ra, lx.length, rc, lx, rb, ly.length, rd, ly⟩ : Crv) 2 1), rowOf encI ra rc 3 1 lx, rowOf encI rb rd 3 1 ly, box b1 [.slice ra lx.length rc, .slice rb ly.length rd] 24] w113 := S140.trans T8
                  clear T8 S140
                  refine J.run 2 K9_52 [(151, .bool ((saX (⟨ra, lx.length, rc, lx, rb, ly.length, rd, ly⟩ : Crv) l) == lx)), (12, .pointer (some ⟨b3, 0, none⟩)), (7, .pointer (some ⟨b1, 0, none⟩))] w113 (by kernel_rfl) ?_
                  have fk25 : ((saX (⟨ra, lx.length, rc, lx, rb, ly.length, rd, ly⟩ : Crv) l) == lx) = true := by rw [hL.sample.2.1, show lx = l from hL.hx]; simp
                  refine J.head (.bool true) (congrArg Value.bool fk25) ?_
                  refine J.run 1 K9_53 [(152, .pointer (some ⟨b3, 1, none⟩)), (151, .bool true), (7, .pointer (some ⟨b1, 0, none⟩))] w113 (by kernel_rfl) ?_
                  refine J.ok (OK.ldBox S141 0 153 22 1 (.slice ra4 ((saY (⟨ra, lx.length, rc, lx, rb, ly.length, rd, ly⟩ : Crv) l).length) rc4) (by kernel_rfl) rfl (by kernel_rfl)) ?_
                  refine J.run 1 K9_54 [(154, .pointer (some ⟨b1, 1, none⟩)), (153, .slice ra4 ((saY (⟨ra, lx.length, rc, lx, rb, ly.length, rd, ly⟩ : Crv) l).length) rc4), (151, .bool true)] w113 (by kernel_rfl) ?_
                  refine J.ok (OK.ldBox S141 8 155 22 1 (.slice rb ly.length rd) (by kernel_rfl) rfl (by kernel_rfl)) ?_
                  have := rowOf_len (S141.nth 1 rfl)
                  have := rowOf_len (S141.nth 7 rfl)
                  refine J.callF 156 31 #[.slice ra4 ((saY (⟨ra, lx.length, rc, lx, rb, ly.length, rd, ly⟩ : Crv) l).length) rc4, .slice rb ly.length rd] hb31 (by kernel_rfl) (equal_any ra4 ((saY (⟨ra, lx.length, rc, lx, rb, ly.length, rd, ly⟩ : Crv) l).length) rc4 (saY (⟨ra, lx.length, rc, lx, rb, ly.length, rd, ly⟩ : Crv) l) rb ly.length rd ly _ ((row1_ones (S141.nth 1 rfl) ((saY (⟨ra, lx.length, rc, lx, rb, ly.length, rd, ly⟩ : Crv) l).length) (by first | rfl | omega | simp))) ((row1_ones (S141.nth 7 rfl) ly.length (by first | rfl | omega | simp))) (by first | omega | (simp; omega))) ?_
                  rintro _ w114 ⟨rfl, T9⟩
                  have S142 : Sep w [box b3 [.slice ra3 ((saX (⟨ra, lx.length, rc, lx, rb, ly.length, rd, ly⟩ : Crv) l).length) rc3, .slice ra4 ((saY (⟨ra, lx.length, rc, lx, rb, ly.length, rd, ly⟩ : Crv) l).length) rc4] 24, rowOf encI ra4 rc4 3 1 (saY (⟨ra, lx.length, rc, lx, rb, ly.length, rd, ly⟩ : Crv) l), rowOf encI ra3 rc3 3 1 (saX (⟨ra, lx.length, rc, lx, rb, ly.length, rd, ly⟩ : Crv) l), box b2 [.slice ra1 ((scX (⟨ra, lx.length, rc, lx, rb, ly.length, rd, ly⟩ : Crv) 2 1).length) rc1, .slice ra2 ((scY (⟨ra, lx.length, rc, lx, rb, ly.length, rd, ly⟩ : Crv) 2 1).length) rc2] 24, rowOf encI ra2 rc2 3 1 (scY (⟨ra, lx.length, rc, lx, rb, ly.length, rd, ly⟩ : Crv) 2 1), rowOf encI ra1 rc1 3 1 (scX (⟨ra, lx.length, rc, lx, rb, ly.length, rd, ly⟩ : Crv) 2 1), rowOf encI ra rc 3 1 lx, rowOf encI rb rd 3 1 ly, box b1 [.slice ra lx.length rc, .slice rb ly.length rd] 24] w114 := S141.trans T9
                  clear T9 S141
                  refine J.run 3 K9_55 [(6, .bool ((saY (⟨ra, lx.length, rc, lx, rb, ly.length, rd, ly⟩ : Crv) l) == ly))] w114 (by kernel_rfl) ?_
                  refine J.ret Tryd.f9 [.bool ((saY (⟨ra, lx.length, rc, lx, rb, ly.length, rd, ly⟩ : Crv) l) == ly)] Tryd.func9 ⟨by kernel_rfl, trivial⟩ ?_
                  refine hR _ _ ?_
                  have fk26 : ((saY (⟨ra, lx.length, rc, lx, rb, ly.length, rd, ly⟩ : Crv) l) == ly) = true := by rw [hL.sample.2.2, show ly = l.map (fun k => slope * k) from hL.hy]; simp
                  exact ⟨congrArg Value.bool fk26, S142.nil⟩
          exact L9_1 _ none 0 ([]) none 0 ([]) 0 w3 (by omega) (by omega) (rfl) (rfl) (by intro j hj; simp at hj) (by simp) (by simp) S5 rfl

end Go.Proofs.YtdilhoibcbihlaaDoor

