/- Walks of functions of this seat, printed by a program over the engine. Conditions: as each theorem says. -/
import Derived.Test.YtadgnficogeheaaGreatDoorZsT23
namespace Go.Proofs.YtadgnficogeheaaGreatDoor
noncomputable section
open Go.Eng Go.RowKit
set_option linter.unusedSimpArgs false
set_option linter.unusedVariables false
/-! another element: what Set answers -/
def setE (m : Mp) (i j z : Int) : Int := if validM m = true then (if 0 ≤ i ∧ i < (m.gX_n : Int) ∧ 0 ≤ j ∧ j < (m.gY_n : Int) ∧ elB z = true then 0 else 2) else 1
def S6Post (m : Mp) (i j z : Int) (w : World) (v : Value) (w' : World) : Prop := ∃ c : Mp, lenM c ∧ okM c ∧ (setE m i j z = 0 → mvM c = setV (mvM m) i.toNat j.toNat z) ∧ v = .tuple #[.agg #[.slice c.gX_a c.gX_n c.gX_c, .slice c.gY_a c.gY_n c.gY_c, .slice c.gZ_a c.gZ_n c.gZ_c], iv (setE m i j z)] ∧ Sep w (rowOf Eng.encI c.gX_a c.gX_c 3 1 c.gX_l :: rowOf Eng.encI c.gY_a c.gY_c 3 1 c.gY_l :: rowOf rwE c.gZ_a c.gZ_c 22 1 c.gZ_l :: tlR c.gZ_l) w'
theorem badS {m : Mp} {i j z : Int} {w w' : World} {L : List Eng.Claim} {e : Int} (h : setE m i j z = e) (he : e ≠ 0) (S : Sep w L w') : S6Post m i j z w (.tuple #[.agg #[.slice none 0 0, .slice none 0 0, .slice none 0 0], iv e]) w' :=
  ⟨⟨none, 0, 0, [], none, 0, 0, [], none, 0, 0, []⟩, ⟨rfl, rfl, rfl, (fun r hr => by cases hr)⟩, ⟨(fun y hy => by cases hy), (fun y hy => by cases hy), (fun y hy => by cases hy)⟩, (fun h2 => absurd (h.symm.trans h2) he), by rw [h], ((S.nil.nilRow 22 1).nilRow 3 1).nilRow 3 1⟩
theorem setE1 {m : Mp} {i j z : Int} (h : validM m = false) : setE m i j z = 1 := by unfold setE; rw [if_neg (by rw [h]; decide)]
theorem setE2 {m : Mp} {i j z : Int} (h : validM m = true) (h2 : i < 0 ∨ (m.gX_n : Int) ≤ i ∨ j < 0 ∨ (m.gY_n : Int) ≤ j ∨ elB z = false) : setE m i j z = 2 := by
  unfold setE; rw [if_pos h, if_neg]
  rintro ⟨a, b, c, d, e⟩
  rcases h2 with h2 | h2 | h2 | h2 | h2
  · omega
  · omega
  · omega
  · omega
  · rw [e] at h2; cases h2
theorem setE0 {m : Mp} {i j z : Int} (h : validM m = true) (a : 0 ≤ i) (b : i < (m.gX_n : Int)) (c : 0 ≤ j) (d : j < (m.gY_n : Int)) (e : elB z = true) : setE m i j z = 0 := by
  unfold setE; rw [if_pos h, if_pos ⟨a, b, c, d, e⟩]
theorem okR_set {x : Rw} (h : okR x) {b : Nat} {z : Int} (hz : elB z = true) : okR ⟨x.gS_a, x.gS_n, x.gS_c, x.gS_l.set b z⟩ := by
  refine ⟨by show x.gS_n = (x.gS_l.set b z).length; rw [List.length_set]; exact h.1, fun y hy => ?_⟩
  rcases List.mem_or_eq_of_mem_set hy with hy | hy
  · exact h.2 y hy
  · have := elB_iff.1 hz; rw [hy]; exact ⟨by omega, by omega⟩
theorem okL_set {out : List Rw} (h : ∀ r ∈ out, okR r) {i : Nat} {x : Rw} (hx : okR x) : ∀ r ∈ out.set i x, okR r := fun r hr => by
  rcases List.mem_or_eq_of_mem_set hr with hr | hr
  · exact h r hr
  · rw [hr]; exact hx
theorem cp_len {w : World} {l out : List Rw} (h : cpQ w l out) : out.length = l.length := by
  have := congrArg List.length h.1; rw [List.length_map, List.length_map] at this; exact this
theorem cp_row {w : World} {l out : List Rw} (h : cpQ w l out) (i : Nat) : (out.getD i rw0).gS_l = (l.getD i rw0).gS_l := by
  have e := congrArg (fun L => L.getD i []) h.1
  simp only [List.getD_eq_getElem?_getD, List.getElem?_map] at e ⊢
  cases h1 : out[i]? <;> cases h2 : l[i]? <;> rw [h1, h2] at e <;> exact e
theorem zn_small {w : World} {m : Mp} (hm : mpQ w m) (hv : validM m = true) : ∀ y ∈ m.gZ_l, y.gS_n ≤ 4096 := fun y hy => by
  obtain ⟨h1, h2, h3, h4⟩ := valid_facts hv
  obtain ⟨k, hk, rfl⟩ := List.mem_iff_getElem.1 hy
  have h5 := (h4 k hk).1
  rw [List.getD_eq_getElem?_getD, List.getElem?_eq_getElem hk] at h5
  have h6 := (axis_facts h2).1
  have h7 : m.gZ_l[k].gS_n = m.gY_n := h5
  have h8 : m.gY_n = m.gY_l.length := hm.2.2.2.2.1.len_eq.symm
  omega

theorem hb10 : HasBody Tryz.prog 10 := fun _ _ => by kernel_rfl
def K10_0 := adv 2 [] (bodyOf Tryz.f10)
def K10_1 := adv 5 [] (popK (popK K10_0))
def K10_2 := adv 2 [] (popK (popK K10_1))
def K10_3 := adv 8 [false] K10_2
def K10_4 := adv 27 [true] K10_3
def K10_5 := adv 2 [] (popK K10_4)
def K10_6 := adv 2 [] K10_3
def K10_7 := adv 4 [] (popK K10_6)
def K10_8 := adv 20 [true] K10_7
def K10_9 := adv 2 [] (popK K10_8)
def K10_10 := adv 4 [] K10_7
def K10_11 := adv 16 [true] K10_10
def K10_12 := adv 2 [] (popK K10_11)
def K10_13 := adv 2 [] K10_10
def K10_14 := adv 4 [] (popK K10_13)
def K10_15 := adv 9 [true] K10_14
def K10_16 := adv 2 [] (popK K10_15)
def K10_17 := adv 1 [] K10_14
def K10_18 := adv 3 [] (popK K10_17)
def K10_19 := adv 3 [false] K10_18
def K10_20 := adv 3 [] (rRest K10_19)
def K10_21 := adv 1 [] (popK K10_20)
def K10_22 := adv 2 [] (popK (popK K10_21))
def K10_23 := adv 3 [] (popK (popK K10_22))
def K10_24 := adv 2 [] (popK (popK K10_23))
def K10_25 := adv 4 [true] K10_18
def K10_26 := adv 2 [] (popK K10_25)
def K10_27 := adv 4 [true] K10_2
def K10_28 := adv 2 [] (popK K10_27)
set_option maxRecDepth 20000 in
set_option maxHeartbeats 20000000 in
theorem set_any (m : Mp) (i j z : Int) (w : World) (hm : mpQ w m) : Ret Tryz.prog 10 #[.agg #[.slice m.gX_a m.gX_n m.gX_c, .slice m.gY_a m.gY_n m.gY_c, .slice m.gZ_a m.gZ_n m.gZ_c], iv i, iv j, iv z] w (S6Post m i j z w) := by
 have S0 := Sep.refl w
 refine Ret.named fun R hR => ?_
 refine Ret.of_J (N := 60) [(0, .agg #[.slice m.gX_a m.gX_n m.gX_c, .slice m.gY_a m.gY_n m.gY_c, .slice m.gZ_a m.gZ_n m.gZ_c]), (1, iv i), (2, iv j), (3, iv z)] Tryz.func10 rfl rfl (Nat.le_of_ble_eq_true (by kernel_rfl)) (by kernel_rfl) ?_
 obtain ⟨q1, q2, q3, q4, q5, q6, q7, q8, q9, _⟩ := id hm
 have ql1 := q2.len_eq
 have ql2 := q5.len_eq
 have ql3 := q8.len_eq
 refine J.run 2 K10_0 [(0, .agg #[.slice m.gX_a m.gX_n m.gX_c, .slice m.gY_a m.gY_n m.gY_c, .slice m.gZ_a m.gZ_n m.gZ_c]), (1, iv i), (2, iv j), (3, iv z)] w (by kernel_rfl) ?_
 refine J.new S0 4 [.slice m.gX_a m.gX_n m.gX_c, .slice m.gY_a m.gY_n m.gY_c, .slice m.gZ_a m.gZ_n m.gZ_c] 25 (by kernel_rfl) ?_
 intro b1 w1 S1
 refine J.new S1 8 [.slice none 0 0, .slice none 0 0, .slice none 0 0] 25 (by kernel_rfl) ?_
 intro b2 w2 S2
 refine J.run 5 K10_1 [(8, .pointer (some ⟨b2, 0, none⟩)), (4, .pointer (some ⟨b1, 0, none⟩)), (1, iv i), (2, iv j), (3, iv z)] w2 (by kernel_rfl) ?_
 refine J.ok (OK.ldBox S2 1 11 25 0 (.agg #[.slice m.gX_a m.gX_n m.gX_c, .slice m.gY_a m.gY_n m.gY_c, .slice m.gZ_a m.gZ_n m.gZ_c]) (by kernel_rfl) rfl (by kernel_rfl)) ?_
 refine J.callF 12 8 #[.agg #[.slice m.gX_a m.gX_n m.gX_c, .slice m.gY_a m.gY_n m.gY_c, .slice m.gZ_a m.gZ_n m.gZ_c]] hb8 (by kernel_rfl) (valid_any m _ (mpQ_sep hm S2)) ?_
 rintro _ w3 ⟨rfl, T1⟩
 have S3 : Sep w [box b2 [.slice none 0 0, .slice none 0 0, .slice none 0 0] 25, box b1 [.slice m.gX_a m.gX_n m.gX_c, .slice m.gY_a m.gY_n m.gY_c, .slice m.gZ_a m.gZ_n m.gZ_c] 25] w3 := S2.trans T1
 clear T1 S2
 refine J.run 2 K10_2 [(13, .bool (!(validM m))), (8, .pointer (some ⟨b2, 0, none⟩)), (4, .pointer (some ⟨b1, 0, none⟩)), (1, iv i), (2, iv j), (3, iv z)] w3 (by kernel_rfl) ?_
 rcases Bool.eq_false_or_eq_true (validM m) with fk1 | fk1
 rotate_left
 ·skip
  refine J.head (.bool true) (congrArg Value.bool (by rw [fk1]; rfl)) ?_
  refine J.run 4 K10_27 [(14, .agg #[.slice none 0 0, .slice none 0 0, .slice none 0 0]), (8, .pointer (some ⟨b2, 0, none⟩))] w3 (by kernel_rfl) ?_
  refine J.stBox S3 0 25 0 (.agg #[.slice none 0 0, .slice none 0 0, .slice none 0 0]) [.slice none 0 0, .slice none 0 0, .slice none 0 0] [box b2 [.slice none 0 0, .slice none 0 0, .slice none 0 0] 25, box b1 [.slice m.gX_a m.gX_n m.gX_c, .slice m.gY_a m.gY_n m.gY_c, .slice m.gZ_a m.gZ_n m.gZ_c] 25] (by kernel_rfl) rfl (by kernel_rfl) (by kernel_rfl) rfl ?_
  intro w33 S48
  refine J.run 2 K10_28 [(9, iv 1), (8, .pointer (some ⟨b2, 0, none⟩))] w33 (by kernel_rfl) ?_
  refine J.ret Tryz.f10 [.agg #[.slice none 0 0, .slice none 0 0, .slice none 0 0], iv 1] Tryz.func10 ⟨⟨⟨b2, 0, none⟩, by kernel_rfl, ldV_run (S48.nth 0 rfl) (by kernel_rfl)⟩, by kernel_rfl, trivial⟩ ?_
  refine hR _ _ ?_
  exact badS (setE1 fk1) (by decide) S48
 refine J.head (.bool false) (congrArg Value.bool (by rw [fk1]; rfl)) ?_
 have hv := fk1
 obtain ⟨hv1, hv2, hv3, hv4⟩ := valid_facts fk1
 obtain ⟨hx1, hx2, hx3⟩ := axis_facts hv1
 obtain ⟨hy1, hy2, hy3⟩ := axis_facts hv2
 refine J.run 8 K10_3 [(17, .bool (decide (i < 0))), (8, .pointer (some ⟨b2, 0, none⟩)), (4, .pointer (some ⟨b1, 0, none⟩)), (1, iv i), (2, iv j), (3, iv z)] w3 (by kernel_rfl) ?_
 by_cases fk2 : i < 0
 ·skip
  refine J.head (.bool true) (congrArg Value.bool (decide_eq_true fk2)) ?_
  refine J.run 27 K10_4 [(40, .agg #[.slice none 0 0, .slice none 0 0, .slice none 0 0]), (8, .pointer (some ⟨b2, 0, none⟩))] w3 (by kernel_rfl) ?_
  refine J.stBox S3 0 25 0 (.agg #[.slice none 0 0, .slice none 0 0, .slice none 0 0]) [.slice none 0 0, .slice none 0 0, .slice none 0 0] [box b2 [.slice none 0 0, .slice none 0 0, .slice none 0 0] 25, box b1 [.slice m.gX_a m.gX_n m.gX_c, .slice m.gY_a m.gY_n m.gY_c, .slice m.gZ_a m.gZ_n m.gZ_c] 25] (by kernel_rfl) rfl (by kernel_rfl) (by kernel_rfl) rfl ?_
  intro w4 S4
  refine J.run 2 K10_5 [(9, iv 2), (8, .pointer (some ⟨b2, 0, none⟩))] w4 (by kernel_rfl) ?_
  refine J.ret Tryz.f10 [.agg #[.slice none 0 0, .slice none 0 0, .slice none 0 0], iv 2] Tryz.func10 ⟨⟨⟨b2, 0, none⟩, by kernel_rfl, ldV_run (S4.nth 0 rfl) (by kernel_rfl)⟩, by kernel_rfl, trivial⟩ ?_
  refine hR _ _ ?_
  exact badS (setE2 hv (by omega)) (by decide) S4
 refine J.head (.bool false) (congrArg Value.bool (decide_eq_false fk2)) ?_
 refine J.run 2 K10_6 [(19, .pointer (some ⟨b1, 0, none⟩)), (18, iv i), (17, .bool false), (8, .pointer (some ⟨b2, 0, none⟩)), (4, .pointer (some ⟨b1, 0, none⟩)), (1, iv i), (2, iv j), (3, iv z)] w3 (by kernel_rfl) ?_
 refine J.ok (OK.ldBox S3 1 20 22 0 (.slice m.gX_a m.gX_n m.gX_c) (by kernel_rfl) rfl (by kernel_rfl)) ?_
 refine J.run 4 K10_7 [(24, .bool (decide (i ≥ (m.gX_n : Int)))), (8, .pointer (some ⟨b2, 0, none⟩)), (4, .pointer (some ⟨b1, 0, none⟩)), (1, iv i), (2, iv j), (3, iv z)] w3 (by kernel_rfl) ?_
 by_cases fk3 : i ≥ (m.gX_n : Int)
 ·skip
  refine J.head (.bool true) (congrArg Value.bool (decide_eq_true fk3)) ?_
  refine J.run 20 K10_8 [(40, .agg #[.slice none 0 0, .slice none 0 0, .slice none 0 0]), (8, .pointer (some ⟨b2, 0, none⟩))] w3 (by kernel_rfl) ?_
  refine J.stBox S3 0 25 0 (.agg #[.slice none 0 0, .slice none 0 0, .slice none 0 0]) [.slice none 0 0, .slice none 0 0, .slice none 0 0] [box b2 [.slice none 0 0, .slice none 0 0, .slice none 0 0] 25, box b1 [.slice m.gX_a m.gX_n m.gX_c, .slice m.gY_a m.gY_n m.gY_c, .slice m.gZ_a m.gZ_n m.gZ_c] 25] (by kernel_rfl) rfl (by kernel_rfl) (by kernel_rfl) rfl ?_
  intro w5 S5
  refine J.run 2 K10_9 [(9, iv 2), (8, .pointer (some ⟨b2, 0, none⟩))] w5 (by kernel_rfl) ?_
  refine J.ret Tryz.f10 [.agg #[.slice none 0 0, .slice none 0 0, .slice none 0 0], iv 2] Tryz.func10 ⟨⟨⟨b2, 0, none⟩, by kernel_rfl, ldV_run (S5.nth 0 rfl) (by kernel_rfl)⟩, by kernel_rfl, trivial⟩ ?_
  refine hR _ _ ?_
  exact badS (setE2 hv (by omega)) (by decide) S5
 refine J.head (.bool false) (congrArg Value.bool (decide_eq_false fk3)) ?_
 refine J.run 4 K10_10 [(28, .bool (decide (j < 0))), (8, .pointer (some ⟨b2, 0, none⟩)), (4, .pointer (some ⟨b1, 0, none⟩)), (1, iv i), (2, iv j), (3, iv z)] w3 (by kernel_rfl) ?_
 by_cases fk4 : j < 0
 ·skip
  refine J.head (.bool true) (congrArg Value.bool (decide_eq_true fk4)) ?_
  refine J.run 16 K10_11 [(40, .agg #[.slice none 0 0, .slice none 0 0, .slice none 0 0]), (8, .pointer (some ⟨b2, 0, none⟩))] w3 (by kernel_rfl) ?_
  refine J.stBox S3 0 25 0 (.agg #[.slice none 0 0, .slice none 0 0, .slice none 0 0]) [.slice none 0 0, .slice none 0 0, .slice none 0 0] [box b2 [.slice none 0 0, .slice none 0 0, .slice none 0 0] 25, box b1 [.slice m.gX_a m.gX_n m.gX_c, .slice m.gY_a m.gY_n m.gY_c, .slice m.gZ_a m.gZ_n m.gZ_c] 25] (by kernel_rfl) rfl (by kernel_rfl) (by kernel_rfl) rfl ?_
  intro w6 S6
  refine J.run 2 K10_12 [(9, iv 2), (8, .pointer (some ⟨b2, 0, none⟩))] w6 (by kernel_rfl) ?_
  refine J.ret Tryz.f10 [.agg #[.slice none 0 0, .slice none 0 0, .slice none 0 0], iv 2] Tryz.func10 ⟨⟨⟨b2, 0, none⟩, by kernel_rfl, ldV_run (S6.nth 0 rfl) (by kernel_rfl)⟩, by kernel_rfl, trivial⟩ ?_
  refine hR _ _ ?_
  exact badS (setE2 hv (by omega)) (by decide) S6
 refine J.head (.bool false) (congrArg Value.bool (decide_eq_false fk4)) ?_
 refine J.run 2 K10_13 [(30, .pointer (some ⟨b1, 1, none⟩)), (29, iv j), (28, .bool false), (8, .pointer (some ⟨b2, 0, none⟩)), (4, .pointer (some ⟨b1, 0, none⟩)), (1, iv i), (2, iv j), (3, iv z)] w3 (by kernel_rfl) ?_
 refine J.ok (OK.ldBox S3 1 31 22 1 (.slice m.gY_a m.gY_n m.gY_c) (by kernel_rfl) rfl (by kernel_rfl)) ?_
 refine J.run 4 K10_14 [(35, .bool (decide (j ≥ (m.gY_n : Int)))), (8, .pointer (some ⟨b2, 0, none⟩)), (4, .pointer (some ⟨b1, 0, none⟩)), (1, iv i), (2, iv j), (3, iv z)] w3 (by kernel_rfl) ?_
 by_cases fk5 : j ≥ (m.gY_n : Int)
 ·skip
  refine J.head (.bool true) (congrArg Value.bool (decide_eq_true fk5)) ?_
  refine J.run 9 K10_15 [(40, .agg #[.slice none 0 0, .slice none 0 0, .slice none 0 0]), (8, .pointer (some ⟨b2, 0, none⟩))] w3 (by kernel_rfl) ?_
  refine J.stBox S3 0 25 0 (.agg #[.slice none 0 0, .slice none 0 0, .slice none 0 0]) [.slice none 0 0, .slice none 0 0, .slice none 0 0] [box b2 [.slice none 0 0, .slice none 0 0, .slice none 0 0] 25, box b1 [.slice m.gX_a m.gX_n m.gX_c, .slice m.gY_a m.gY_n m.gY_c, .slice m.gZ_a m.gZ_n m.gZ_c] 25] (by kernel_rfl) rfl (by kernel_rfl) (by kernel_rfl) rfl ?_
  intro w7 S7
  refine J.run 2 K10_16 [(9, iv 2), (8, .pointer (some ⟨b2, 0, none⟩))] w7 (by kernel_rfl) ?_
  refine J.ret Tryz.f10 [.agg #[.slice none 0 0, .slice none 0 0, .slice none 0 0], iv 2] Tryz.func10 ⟨⟨⟨b2, 0, none⟩, by kernel_rfl, ldV_run (S7.nth 0 rfl) (by kernel_rfl)⟩, by kernel_rfl, trivial⟩ ?_
  refine hR _ _ ?_
  exact badS (setE2 hv (by omega)) (by decide) S7
 refine J.head (.bool false) (congrArg Value.bool (decide_eq_false fk5)) ?_
 refine J.run 1 K10_17 [(36, iv z), (35, .bool false), (8, .pointer (some ⟨b2, 0, none⟩)), (4, .pointer (some ⟨b1, 0, none⟩)), (1, iv i), (2, iv j), (3, iv z)] w3 (by kernel_rfl) ?_
 refine J.callF 37 23 #[iv z] hb23 (by kernel_rfl) (element_any z _) ?_
 rintro _ w8 ⟨rfl, T2⟩
 have S8 : Sep w [box b2 [.slice none 0 0, .slice none 0 0, .slice none 0 0] 25, box b1 [.slice m.gX_a m.gX_n m.gX_c, .slice m.gY_a m.gY_n m.gY_c, .slice m.gZ_a m.gZ_n m.gZ_c] 25] w8 := S3.trans T2
 clear T2 S3
 refine J.run 3 K10_18 [(39, .bool (!(elB z))), (8, .pointer (some ⟨b2, 0, none⟩)), (4, .pointer (some ⟨b1, 0, none⟩)), (1, iv i), (2, iv j), (3, iv z)] w8 (by kernel_rfl) ?_
 rcases Bool.eq_false_or_eq_true (elB z) with fk6 | fk6
 rotate_left
 ·skip
  refine J.head (.bool true) (congrArg Value.bool (by rw [fk6]; rfl)) ?_
  refine J.run 4 K10_25 [(40, .agg #[.slice none 0 0, .slice none 0 0, .slice none 0 0]), (8, .pointer (some ⟨b2, 0, none⟩))] w8 (by kernel_rfl) ?_
  refine J.stBox S8 0 25 0 (.agg #[.slice none 0 0, .slice none 0 0, .slice none 0 0]) [.slice none 0 0, .slice none 0 0, .slice none 0 0] [box b2 [.slice none 0 0, .slice none 0 0, .slice none 0 0] 25, box b1 [.slice m.gX_a m.gX_n m.gX_c, .slice m.gY_a m.gY_n m.gY_c, .slice m.gZ_a m.gZ_n m.gZ_c] 25] (by kernel_rfl) rfl (by kernel_rfl) (by kernel_rfl) rfl ?_
  intro w32 S47
  refine J.run 2 K10_26 [(9, iv 2), (8, .pointer (some ⟨b2, 0, none⟩))] w32 (by kernel_rfl) ?_
  refine J.ret Tryz.f10 [.agg #[.slice none 0 0, .slice none 0 0, .slice none 0 0], iv 2] Tryz.func10 ⟨⟨⟨b2, 0, none⟩, by kernel_rfl, ldV_run (S47.nth 0 rfl) (by kernel_rfl)⟩, by kernel_rfl, trivial⟩ ?_
  refine hR _ _ ?_
  exact badS (setE2 hv (.inr (.inr (.inr (.inr fk6))))) (by decide) S47
 refine J.head (.bool false) (congrArg Value.bool (by rw [fk6]; rfl)) ?_
 have hez := fk6
 have hrw_ : (m.gZ_l.getD (i).toNat rw0).gS_l.length = m.gY_n := by rw [row_len hm (by omega)]; exact (hv4 _ (by omega)).1
 refine J.run 3 K10_19 [(8, .pointer (some ⟨b2, 0, none⟩)), (4, .pointer (some ⟨b1, 0, none⟩)), (1, iv i), (2, iv j), (3, iv z)] w8 (by kernel_rfl) ?_
 have W1 : ∀ (bd10 : Nat) (ad2 : Option Addr) (cd2 : Nat) (ad5 : Option Addr) (cd5 : Nat) (ad8 : Option Addr) (cd8 : Nat) (zo : List Rw) (hcp : cpQ w m.gZ_l zo) (hcl : zo.length = m.gZ_l.length) (w9 : World), Sep w (rowOf rwE ad8 cd8 22 1 zo :: rowOf Eng.encI ad5 cd5 3 1 m.gY_l :: rowOf Eng.encI ad2 cd2 3 1 m.gX_l :: box bd10 [.slice ad2 m.gX_l.length cd2, .slice ad5 m.gY_l.length cd5, .slice ad8 zo.length cd8] 25 :: box b2 [.slice none 0 0, .slice none 0 0, .slice none 0 0] 25 :: box b1 [.slice m.gX_a m.gX_n m.gX_c, .slice m.gY_a m.gY_n m.gY_c, .slice m.gZ_a m.gZ_n m.gZ_c] 25 :: tlR zo) w9 → WA Tryz.prog 10 60 R K10_19 (fun w_ => Sep w [box b2 [.slice none 0 0, .slice none 0 0, .slice none 0 0] 25, box b1 [.slice m.gX_a m.gX_n m.gX_c, .slice m.gY_a m.gY_n m.gY_c, .slice m.gZ_a m.gZ_n m.gZ_c] 25] w_) 0 #[true, true, true, true, true, true, true, true, true, true, true, true] [(1, iv i), (2, iv j), (3, iv z), (8, .pointer (some ⟨b2, 0, none⟩)), (10, .pointer (some ⟨bd10, 0, none⟩))] w9 := by
  intro bd10 ad2 cd2 ad5 cd5 ad8 cd8 zo hcp hcl w9 S9
  refine WA.done (by kernel_rfl) ?_
  refine J.run 0 (rRest K10_19) [(1, iv i), (2, iv j), (3, iv z), (8, .pointer (some ⟨b2, 0, none⟩)), (10, .pointer (some ⟨bd10, 0, none⟩))] w9 (by kernel_rfl) ?_
  refine J.run 3 K10_20 [(51, .pointer (some ⟨bd10, 2, none⟩)), (1, iv i), (2, iv j), (3, iv z), (8, .pointer (some ⟨b2, 0, none⟩)), (10, .pointer (some ⟨bd10, 0, none⟩))] w9 (by kernel_rfl) ?_
  refine J.ok (OK.ldBox S9 3 52 23 2 (.slice ad8 zo.length cd8) (by kernel_rfl) rfl (by kernel_rfl)) ?_
  refine J.run 1 K10_21 [(53, iv i), (52, .slice ad8 zo.length cd8), (2, iv j), (3, iv z), (8, .pointer (some ⟨b2, 0, none⟩)), (10, .pointer (some ⟨bd10, 0, none⟩))] w9 (by kernel_rfl) ?_
  obtain ⟨p1, hp1, hc1⟩ := (rowOf_recs (S9.nth 0 rfl) _ rfl (fun _ => rfl) (by decide)).at rw0 (i).toNat (by omega)
  refine J.ok (OK.index 54 23 1 ad8 p1 zo.length (i).toNat i (p1.add ((i).toNat * 1)) (by kernel_rfl) (by kernel_rfl) hp1 (by omega) (by omega) rfl) ?_
  refine J.ok (OK.ldCell 55 22 (p1.add ((i).toNat * 1)) (.slice ((zo.getD (i).toNat rw0).gS_a) ((zo.getD (i).toNat rw0).gS_n) ((zo.getD (i).toNat rw0).gS_c)) (by kernel_rfl) (by kernel_rfl) (cell_zero (hc1 0 _ rfl))) ?_
  have hzr := hcp.2 (zo.getD (i).toNat rw0) (getD_mem rw0 (by omega))
  have hzl : ((zo.getD (i).toNat rw0).gS_l).length = m.gY_n := by rw [cp_row hcp]; exact hrw_
  refine J.head (.slice ((zo.getD (i).toNat rw0).gS_a) ((zo.getD (i).toNat rw0).gS_l.length) ((zo.getD (i).toNat rw0).gS_c)) (by rw [hzr.1]) ?_
  have S10 : Sep w (rowOf Eng.encI ((zo.getD (i).toNat rw0).gS_a) ((zo.getD (i).toNat rw0).gS_c) 3 1 ((zo.getD (i).toNat rw0).gS_l) :: rowOf rwE ad8 cd8 22 1 zo :: rowOf Eng.encI ad5 cd5 3 1 m.gY_l :: rowOf Eng.encI ad2 cd2 3 1 m.gX_l :: box bd10 [.slice ad2 m.gX_l.length cd2, .slice ad5 m.gY_l.length cd5, .slice ad8 zo.length cd8] 25 :: box b2 [.slice none 0 0, .slice none 0 0, .slice none 0 0] 25 :: box b1 [.slice m.gX_a m.gX_n m.gX_c, .slice m.gY_a m.gY_n m.gY_c, .slice m.gZ_a m.gZ_n m.gZ_c] 25 :: tlR (zo.eraseIdx (i).toNat)) w9 := clm_get [rowOf rwE ad8 cd8 22 1 zo, rowOf Eng.encI ad5 cd5 3 1 m.gY_l, rowOf Eng.encI ad2 cd2 3 1 m.gX_l, box bd10 [.slice ad2 m.gX_l.length cd2, .slice ad5 m.gY_l.length cd5, .slice ad8 zo.length cd8] 25, box b2 [.slice none 0 0, .slice none 0 0, .slice none 0 0] 25, box b1 [.slice m.gX_a m.gX_n m.gX_c, .slice m.gY_a m.gY_n m.gY_c, .slice m.gZ_a m.gZ_n m.gZ_c] 25] (by omega) S9
  refine J.run 2 K10_22 [(57, iv z), (56, iv j), (55, .slice ((zo.getD (i).toNat rw0).gS_a) ((zo.getD (i).toNat rw0).gS_l.length) ((zo.getD (i).toNat rw0).gS_c)), (8, .pointer (some ⟨b2, 0, none⟩)), (10, .pointer (some ⟨bd10, 0, none⟩))] w9 (by kernel_rfl) ?_
  obtain ⟨p2, hp2⟩ := row1_addr (S10.nth 0 rfl) (show 0 < ((zo.getD (i).toNat rw0).gS_l).length by first | omega | (simp; omega))
  refine J.ok (OK.index 58 22 1 ((zo.getD (i).toNat rw0).gS_a) p2 ((zo.getD (i).toNat rw0).gS_l.length) (j).toNat j (p2.add (j).toNat) (by kernel_rfl) (by kernel_rfl) hp2 (by omega) (by first | omega | (simp; omega)) (by rw [Nat.mul_one])) ?_
  refine J.stRow1 (Value.int .i64) (int_one _) S10 0 ((zo.getD (i).toNat rw0).gS_l) 3 p2 (j).toNat z rfl (by kernel_rfl) hp2 (by first | omega | (simp; omega)) (by kernel_rfl) ?_
  intro w10 S11
  replace S11 : Sep w (rowOf Eng.encI ((zo.getD (i).toNat rw0).gS_a) ((zo.getD (i).toNat rw0).gS_c) 3 1 (((zo.getD (i).toNat rw0).gS_l).set (j).toNat z) :: rowOf rwE ad8 cd8 22 1 zo :: rowOf Eng.encI ad5 cd5 3 1 m.gY_l :: rowOf Eng.encI ad2 cd2 3 1 m.gX_l :: box bd10 [.slice ad2 m.gX_l.length cd2, .slice ad5 m.gY_l.length cd5, .slice ad8 zo.length cd8] 25 :: box b2 [.slice none 0 0, .slice none 0 0, .slice none 0 0] 25 :: box b1 [.slice m.gX_a m.gX_n m.gX_c, .slice m.gY_a m.gY_n m.gY_c, .slice m.gZ_a m.gZ_n m.gZ_c] 25 :: tlR (zo.eraseIdx (i).toNat)) w10 := S11
  refine J.run 3 K10_23 [(8, .pointer (some ⟨b2, 0, none⟩)), (10, .pointer (some ⟨bd10, 0, none⟩))] w10 (by kernel_rfl) ?_
  refine J.ok (OK.ldBox S11 4 59 25 0 (.agg #[.slice ad2 m.gX_l.length cd2, .slice ad5 m.gY_l.length cd5, .slice ad8 zo.length cd8]) (by kernel_rfl) rfl (by kernel_rfl)) ?_
  refine J.stBox S11 5 25 0 (.agg #[.slice ad2 m.gX_l.length cd2, .slice ad5 m.gY_l.length cd5, .slice ad8 zo.length cd8]) [.slice ad2 m.gX_l.length cd2, .slice ad5 m.gY_l.length cd5, .slice ad8 zo.length cd8] (rowOf Eng.encI ((zo.getD (i).toNat rw0).gS_a) ((zo.getD (i).toNat rw0).gS_c) 3 1 (((zo.getD (i).toNat rw0).gS_l).set (j).toNat z) :: rowOf rwE ad8 cd8 22 1 zo :: rowOf Eng.encI ad5 cd5 3 1 m.gY_l :: rowOf Eng.encI ad2 cd2 3 1 m.gX_l :: box bd10 [.slice ad2 m.gX_l.length cd2, .slice ad5 m.gY_l.length cd5, .slice ad8 zo.length cd8] 25 :: box b2 [.slice ad2 m.gX_l.length cd2, .slice ad5 m.gY_l.length cd5, .slice ad8 zo.length cd8] 25 :: box b1 [.slice m.gX_a m.gX_n m.gX_c, .slice m.gY_a m.gY_n m.gY_c, .slice m.gZ_a m.gZ_n m.gZ_c] 25 :: tlR (zo.eraseIdx (i).toNat)) (by kernel_rfl) rfl (by kernel_rfl) (by kernel_rfl) rfl ?_
  intro w11 S12
  refine J.run 2 K10_24 [(9, iv 0), (8, .pointer (some ⟨b2, 0, none⟩))] w11 (by kernel_rfl) ?_
  refine J.ret Tryz.f10 [.agg #[.slice ad2 m.gX_l.length cd2, .slice ad5 m.gY_l.length cd5, .slice ad8 zo.length cd8], iv 0] Tryz.func10 ⟨⟨⟨b2, 0, none⟩, by kernel_rfl, ldV_run (S12.nth 5 rfl) (by kernel_rfl)⟩, by kernel_rfl, trivial⟩ ?_
  refine hR _ _ ?_
  have S13 : Sep w (rowOf Eng.encI ((zo.getD (i).toNat rw0).gS_a) ((zo.getD (i).toNat rw0).gS_c) 3 1 (((zo.getD (i).toNat rw0).gS_l).set (j).toNat z) :: rowOf rwE ad8 cd8 22 1 zo :: rowOf Eng.encI ad5 cd5 3 1 m.gY_l :: rowOf Eng.encI ad2 cd2 3 1 m.gX_l :: tlR (zo.eraseIdx (i).toNat)) w11 := S12.sub (.cons_cons _ (.cons_cons _ (.cons_cons _ (.cons_cons _ (.cons _ (.cons _ (.cons _ (List.Sublist.refl _))))))))
  clear S12
  have S14 := S13.front 1 rfl
  clear S13
  have S15 := S14.front 2 rfl
  clear S14
  have S16 := S15.front 3 rfl
  clear S15
  have S17 : Sep w (rowOf Eng.encI ((zo.getD (i).toNat rw0).gS_a) ((zo.getD (i).toNat rw0).gS_c) 3 1 (((zo.getD (i).toNat rw0).gS_l).set (j).toNat z) :: rowOf Eng.encI ad2 cd2 3 1 m.gX_l :: rowOf Eng.encI ad5 cd5 3 1 m.gY_l :: rowOf rwE ad8 cd8 22 1 zo :: tlR (zo.eraseIdx (i).toNat)) w11 := S16.front 3 rfl
  clear S16
  have he0 := setE0 (i := i) (j := j) hv (by omega) (by omega) (by omega) (by omega) fk6
  have hS := clm_put [rowOf Eng.encI ad2 cd2 3 1 m.gX_l, rowOf Eng.encI ad5 cd5 3 1 m.gY_l, rowOf rwE ad8 cd8 22 1 zo] (show (i).toNat < zo.length by omega) (⟨(zo.getD (i).toNat rw0).gS_a, (zo.getD (i).toNat rw0).gS_n, (zo.getD (i).toNat rw0).gS_c, (zo.getD (i).toNat rw0).gS_l.set (j).toNat z⟩ : Rw) S17
  rw [← rowW_set (i := (i).toNat) (x := (⟨(zo.getD (i).toNat rw0).gS_a, (zo.getD (i).toNat rw0).gS_n, (zo.getD (i).toNat rw0).gS_c, (zo.getD (i).toNat rw0).gS_l.set (j).toNat z⟩ : Rw)) (show (i).toNat < zo.length by omega) rfl] at hS
  have hok : okM ⟨ad2, (m.gX_l).length, cd2, m.gX_l, ad5, (m.gY_l).length, cd5, m.gY_l, ad8, zo.length, cd8, (zo.set (i).toNat (⟨(zo.getD (i).toNat rw0).gS_a, (zo.getD (i).toNat rw0).gS_n, (zo.getD (i).toNat rw0).gS_c, (zo.getD (i).toNat rw0).gS_l.set (j).toNat z⟩ : Rw))⟩ := ⟨hm.2.2.1, hm.2.2.2.2.2.1, okL_set hcp.2 (okR_set hzr fk6)⟩
  exact ⟨_, len_ok rfl rfl (List.length_set).symm hok, hok, fun _ => cp_set hcp.1 rfl, by rw [he0]; rfl, hS⟩
 have W2 : ∀ (bd10 : Nat) (ad2 : Option Addr) (cd2 : Nat) (ad5 : Option Addr) (cd5 : Nat) (ad8 : Option Addr) (cd8 : Nat) (zo : List Rw) (hcp : cpQ w m.gZ_l zo) (hcl : zo.length = m.gZ_l.length) (w12 : World), Sep w (rowOf rwE ad8 cd8 22 1 zo :: rowOf Eng.encI ad5 cd5 3 1 m.gY_l :: rowOf Eng.encI ad2 cd2 3 1 m.gX_l :: box bd10 [.slice none 0 0, .slice none 0 0, .slice none 0 0] 25 :: box b2 [.slice none 0 0, .slice none 0 0, .slice none 0 0] 25 :: box b1 [.slice m.gX_a m.gX_n m.gX_c, .slice m.gY_a m.gY_n m.gY_c, .slice m.gZ_a m.gZ_n m.gZ_c] 25 :: tlR zo) w12 → WA Tryz.prog 10 60 R K10_19 (fun w_ => Sep w [box b2 [.slice none 0 0, .slice none 0 0, .slice none 0 0] 25, box b1 [.slice m.gX_a m.gX_n m.gX_c, .slice m.gY_a m.gY_n m.gY_c, .slice m.gZ_a m.gZ_n m.gZ_c] 25] w_) 1 #[true, true, true, true, true, true, true, true, true, true, true, false] [(1, iv i), (2, iv j), (3, iv z), (8, .pointer (some ⟨b2, 0, none⟩)), (10, .pointer (some ⟨bd10, 0, none⟩)), (50, .agg #[.slice ad2 m.gX_l.length cd2, .slice ad5 m.gY_l.length cd5, .slice ad8 zo.length cd8])] w12 := by
  intro bd10 ad2 cd2 ad5 cd5 ad8 cd8 zo hcp hcl w12 S18
  refine WA.all [11] (by kernel_rfl) rfl ⟨?_, trivial⟩
  refine WO.set #[true, true, true, true, true, true, true, true, true, true, true, true] (by kernel_rfl) ?_
  refine WO.stBox S18 3 25 0 (.agg #[.slice ad2 m.gX_l.length cd2, .slice ad5 m.gY_l.length cd5, .slice ad8 zo.length cd8]) [.slice ad2 m.gX_l.length cd2, .slice ad5 m.gY_l.length cd5, .slice ad8 zo.length cd8] (rowOf rwE ad8 cd8 22 1 zo :: rowOf Eng.encI ad5 cd5 3 1 m.gY_l :: rowOf Eng.encI ad2 cd2 3 1 m.gX_l :: box bd10 [.slice ad2 m.gX_l.length cd2, .slice ad5 m.gY_l.length cd5, .slice ad8 zo.length cd8] 25 :: box b2 [.slice none 0 0, .slice none 0 0, .slice none 0 0] 25 :: box b1 [.slice m.gX_a m.gX_n m.gX_c, .slice m.gY_a m.gY_n m.gY_c, .slice m.gZ_a m.gZ_n m.gZ_c] 25 :: tlR zo) (by kernel_rfl) rfl (by kernel_rfl) (by kernel_rfl) rfl ?_
  intro w13 S19
  refine WB.mk (S19.sub (.cons _ (.cons _ (.cons _ (.cons _ (.cons_cons _ (.cons_cons _ (List.nil_sublist _)))))))) ?_
  refine WA.weaken (env' := [(1, iv i), (2, iv j), (3, iv z), (8, .pointer (some ⟨b2, 0, none⟩)), (10, .pointer (some ⟨bd10, 0, none⟩))]) (by kernel_rfl) ?_
  exact W1 bd10 ad2 cd2 ad5 cd5 ad8 cd8 zo hcp hcl w13 S19
 have W3 : ∀ (ad2 : Option Addr) (cd2 : Nat) (ad5 : Option Addr) (cd5 : Nat) (ad8 : Option Addr) (cd8 : Nat) (zo : List Rw) (hcp : cpQ w m.gZ_l zo) (hcl : zo.length = m.gZ_l.length) (w14 : World), Sep w (rowOf rwE ad8 cd8 22 1 zo :: rowOf Eng.encI ad5 cd5 3 1 m.gY_l :: rowOf Eng.encI ad2 cd2 3 1 m.gX_l :: box b2 [.slice none 0 0, .slice none 0 0, .slice none 0 0] 25 :: box b1 [.slice m.gX_a m.gX_n m.gX_c, .slice m.gY_a m.gY_n m.gY_c, .slice m.gZ_a m.gZ_n m.gZ_c] 25 :: tlR zo) w14 → WA Tryz.prog 10 60 R K10_19 (fun w_ => Sep w [box b2 [.slice none 0 0, .slice none 0 0, .slice none 0 0] 25, box b1 [.slice m.gX_a m.gX_n m.gX_c, .slice m.gY_a m.gY_n m.gY_c, .slice m.gZ_a m.gZ_n m.gZ_c] 25] w_) 2 #[true, true, true, true, true, true, true, true, true, true, false, false] [(1, iv i), (2, iv j), (3, iv z), (8, .pointer (some ⟨b2, 0, none⟩)), (50, .agg #[.slice ad2 m.gX_l.length cd2, .slice ad5 m.gY_l.length cd5, .slice ad8 zo.length cd8])] w14 := by
  intro ad2 cd2 ad5 cd5 ad8 cd8 zo hcp hcl w14 S20
  refine WA.all [10] (by kernel_rfl) rfl ⟨?_, trivial⟩
  refine WO.set #[true, true, true, true, true, true, true, true, true, true, true, false] (by kernel_rfl) ?_
  refine WO.new S20 10 [.slice none 0 0, .slice none 0 0, .slice none 0 0] 25 (by kernel_rfl) ?_
  intro bd10 w15 S21
  refine WB.mk (S21.sub (.cons _ (.cons _ (.cons _ (.cons _ (.cons_cons _ (.cons_cons _ (List.nil_sublist _)))))))) ?_
  refine WA.weaken (env' := [(1, iv i), (2, iv j), (3, iv z), (8, .pointer (some ⟨b2, 0, none⟩)), (10, .pointer (some ⟨bd10, 0, none⟩)), (50, .agg #[.slice ad2 m.gX_l.length cd2, .slice ad5 m.gY_l.length cd5, .slice ad8 zo.length cd8])]) (by kernel_rfl) ?_
  have S22 : Sep w (box bd10 [.slice none 0 0, .slice none 0 0, .slice none 0 0] 25 :: rowOf rwE ad8 cd8 22 1 zo :: rowOf Eng.encI ad5 cd5 3 1 m.gY_l :: rowOf Eng.encI ad2 cd2 3 1 m.gX_l :: box b2 [.slice none 0 0, .slice none 0 0, .slice none 0 0] 25 :: box b1 [.slice m.gX_a m.gX_n m.gX_c, .slice m.gY_a m.gY_n m.gY_c, .slice m.gZ_a m.gZ_n m.gZ_c] 25 :: tlR zo) w15 := S21.front 0 rfl
  have S23 : Sep w (rowOf Eng.encI ad2 cd2 3 1 m.gX_l :: box bd10 [.slice none 0 0, .slice none 0 0, .slice none 0 0] 25 :: rowOf rwE ad8 cd8 22 1 zo :: rowOf Eng.encI ad5 cd5 3 1 m.gY_l :: box b2 [.slice none 0 0, .slice none 0 0, .slice none 0 0] 25 :: box b1 [.slice m.gX_a m.gX_n m.gX_c, .slice m.gY_a m.gY_n m.gY_c, .slice m.gZ_a m.gZ_n m.gZ_c] 25 :: tlR zo) w15 := S22.front 3 rfl
  have S24 : Sep w (rowOf Eng.encI ad5 cd5 3 1 m.gY_l :: rowOf Eng.encI ad2 cd2 3 1 m.gX_l :: box bd10 [.slice none 0 0, .slice none 0 0, .slice none 0 0] 25 :: rowOf rwE ad8 cd8 22 1 zo :: box b2 [.slice none 0 0, .slice none 0 0, .slice none 0 0] 25 :: box b1 [.slice m.gX_a m.gX_n m.gX_c, .slice m.gY_a m.gY_n m.gY_c, .slice m.gZ_a m.gZ_n m.gZ_c] 25 :: tlR zo) w15 := S23.front 3 rfl
  have S25 : Sep w (rowOf rwE ad8 cd8 22 1 zo :: rowOf Eng.encI ad5 cd5 3 1 m.gY_l :: rowOf Eng.encI ad2 cd2 3 1 m.gX_l :: box bd10 [.slice none 0 0, .slice none 0 0, .slice none 0 0] 25 :: box b2 [.slice none 0 0, .slice none 0 0, .slice none 0 0] 25 :: box b1 [.slice m.gX_a m.gX_n m.gX_c, .slice m.gY_a m.gY_n m.gY_c, .slice m.gZ_a m.gZ_n m.gZ_c] 25 :: tlR zo) w15 := S24.front 3 rfl
  exact W2 bd10 ad2 cd2 ad5 cd5 ad8 cd8 zo hcp hcl w15 S25
 have W4 : ∀ (bd10 : Nat) (ad2 : Option Addr) (cd2 : Nat) (ad5 : Option Addr) (cd5 : Nat) (w16 : World), Sep w [rowOf Eng.encI ad5 cd5 3 1 m.gY_l, rowOf Eng.encI ad2 cd2 3 1 m.gX_l, box bd10 [.slice none 0 0, .slice none 0 0, .slice none 0 0] 25, box b2 [.slice none 0 0, .slice none 0 0, .slice none 0 0] 25, box b1 [.slice m.gX_a m.gX_n m.gX_c, .slice m.gY_a m.gY_n m.gY_c, .slice m.gZ_a m.gZ_n m.gZ_c] 25] w16 → WA Tryz.prog 10 60 R K10_19 (fun w_ => Sep w [box b2 [.slice none 0 0, .slice none 0 0, .slice none 0 0] 25, box b1 [.slice m.gX_a m.gX_n m.gX_c, .slice m.gY_a m.gY_n m.gY_c, .slice m.gZ_a m.gZ_n m.gZ_c] 25] w_) 3 #[true, true, true, true, true, true, true, true, false, false, true, false] [(1, iv i), (2, iv j), (3, iv z), (8, .pointer (some ⟨b2, 0, none⟩)), (10, .pointer (some ⟨bd10, 0, none⟩)), (43, .slice ad2 m.gX_l.length cd2), (46, .slice ad5 m.gY_l.length cd5), (48, .slice m.gZ_a m.gZ_n m.gZ_c)] w16 := by
  intro bd10 ad2 cd2 ad5 cd5 w16 S26
  refine WA.all [8] (by kernel_rfl) rfl ⟨?_, trivial⟩
  refine WO.set #[true, true, true, true, true, true, true, true, true, false, true, false] (by kernel_rfl) ?_
  refine WO.callF 49 26 #[.slice m.gZ_a m.gZ_n m.gZ_c, .func (.func 27) #[] #[]] hb26 (by kernel_rfl) (mappedR_any m.gZ_a m.gZ_n m.gZ_c m.gZ_l _ (q8.sep S26) (fun y hy => rwQ_sep (hm.2.2.2.2.2.2.2.2.1 y hy) S26) (zn_small hm hv) (by omega)) ?_
  rintro _ w17 ⟨ad8, cd8, zo, hcp, rfl, T3⟩
  have hcl := cp_len hcp
  have S27 : Sep w (rowOf rwE ad8 cd8 22 1 zo :: rowOf Eng.encI ad5 cd5 3 1 m.gY_l :: rowOf Eng.encI ad2 cd2 3 1 m.gX_l :: box bd10 [.slice none 0 0, .slice none 0 0, .slice none 0 0] 25 :: box b2 [.slice none 0 0, .slice none 0 0, .slice none 0 0] 25 :: box b1 [.slice m.gX_a m.gX_n m.gX_c, .slice m.gY_a m.gY_n m.gY_c, .slice m.gZ_a m.gZ_n m.gZ_c] 25 :: tlR zo) w17 := clm_tl0 [rowOf Eng.encI ad5 cd5 3 1 m.gY_l, rowOf Eng.encI ad2 cd2 3 1 m.gX_l, box bd10 [.slice none 0 0, .slice none 0 0, .slice none 0 0] 25, box b2 [.slice none 0 0, .slice none 0 0, .slice none 0 0] 25, box b1 [.slice m.gX_a m.gX_n m.gX_c, .slice m.gY_a m.gY_n m.gY_c, .slice m.gZ_a m.gZ_n m.gZ_c] 25] (S26.trans T3)
  clear T3
  refine WB.mk (S27.sub (.cons _ (.cons _ (.cons _ (.cons _ (.cons_cons _ (.cons_cons _ (List.nil_sublist _)))))))) ?_
  refine WA.take 9 50 (.agg #[.slice ad2 m.gX_l.length cd2, .slice ad5 m.gY_l.length cd5, .slice ad8 zo.length cd8]) #[true, true, true, true, true, true, true, true, true, true, true, false] (by kernel_rfl) (by kernel_rfl) (by kernel_rfl) (fun _ _ => by kernel_rfl) (by kernel_rfl) ?_
  refine WA.weaken (env' := [(1, iv i), (2, iv j), (3, iv z), (8, .pointer (some ⟨b2, 0, none⟩)), (10, .pointer (some ⟨bd10, 0, none⟩)), (50, .agg #[.slice ad2 m.gX_l.length cd2, .slice ad5 m.gY_l.length cd5, .slice ad8 zo.length cd8])]) (by kernel_rfl) ?_
  exact W2 bd10 ad2 cd2 ad5 cd5 ad8 cd8 zo hcp hcl w17 S27
 have W5 : ∀ (bd10 : Nat) (ad2 : Option Addr) (cd2 : Nat) (w18 : World), Sep w [rowOf Eng.encI ad2 cd2 3 1 m.gX_l, box bd10 [.slice none 0 0, .slice none 0 0, .slice none 0 0] 25, box b2 [.slice none 0 0, .slice none 0 0, .slice none 0 0] 25, box b1 [.slice m.gX_a m.gX_n m.gX_c, .slice m.gY_a m.gY_n m.gY_c, .slice m.gZ_a m.gZ_n m.gZ_c] 25] w18 → WA Tryz.prog 10 60 R K10_19 (fun w_ => Sep w [box b2 [.slice none 0 0, .slice none 0 0, .slice none 0 0] 25, box b1 [.slice m.gX_a m.gX_n m.gX_c, .slice m.gY_a m.gY_n m.gY_c, .slice m.gZ_a m.gZ_n m.gZ_c] 25] w_) 4 #[true, true, true, true, true, false, true, true, false, false, true, false] [(1, iv i), (2, iv j), (3, iv z), (8, .pointer (some ⟨b2, 0, none⟩)), (10, .pointer (some ⟨bd10, 0, none⟩)), (43, .slice ad2 m.gX_l.length cd2), (45, .slice m.gY_a m.gY_n m.gY_c), (48, .slice m.gZ_a m.gZ_n m.gZ_c)] w18 := by
  intro bd10 ad2 cd2 w18 S28
  refine WA.all [5] (by kernel_rfl) rfl ⟨?_, trivial⟩
  refine WO.set #[true, true, true, true, true, true, true, true, false, false, true, false] (by kernel_rfl) ?_
  refine WO.callF 46 25 #[.slice m.gY_a m.gY_n m.gY_c] hb25 (by kernel_rfl) (clone_any m.gY_a m.gY_n m.gY_c m.gY_l _ (q5.sep S28) (by omega) (by omega)) ?_
  rintro _ w19 ⟨ad5, cd5, rfl, T4⟩
  have S29 : Sep w [rowOf Eng.encI ad5 cd5 3 1 m.gY_l, rowOf Eng.encI ad2 cd2 3 1 m.gX_l, box bd10 [.slice none 0 0, .slice none 0 0, .slice none 0 0] 25, box b2 [.slice none 0 0, .slice none 0 0, .slice none 0 0] 25, box b1 [.slice m.gX_a m.gX_n m.gX_c, .slice m.gY_a m.gY_n m.gY_c, .slice m.gZ_a m.gZ_n m.gZ_c] 25] w19 := S28.trans T4
  clear T4 S28
  refine WB.mk (((S29.erase 2).erase 1).erase 0) ?_
  refine WA.weaken (env' := [(1, iv i), (2, iv j), (3, iv z), (8, .pointer (some ⟨b2, 0, none⟩)), (10, .pointer (some ⟨bd10, 0, none⟩)), (43, .slice ad2 m.gX_l.length cd2), (46, .slice ad5 m.gY_l.length cd5), (48, .slice m.gZ_a m.gZ_n m.gZ_c)]) (by kernel_rfl) ?_
  exact W4 bd10 ad2 cd2 ad5 cd5 w19 S29
 have W6 : ∀ (ad2 : Option Addr) (cd2 : Nat) (ad5 : Option Addr) (cd5 : Nat) (w20 : World), Sep w [rowOf Eng.encI ad5 cd5 3 1 m.gY_l, rowOf Eng.encI ad2 cd2 3 1 m.gX_l, box b2 [.slice none 0 0, .slice none 0 0, .slice none 0 0] 25, box b1 [.slice m.gX_a m.gX_n m.gX_c, .slice m.gY_a m.gY_n m.gY_c, .slice m.gZ_a m.gZ_n m.gZ_c] 25] w20 → WA Tryz.prog 10 60 R K10_19 (fun w_ => Sep w [box b2 [.slice none 0 0, .slice none 0 0, .slice none 0 0] 25, box b1 [.slice m.gX_a m.gX_n m.gX_c, .slice m.gY_a m.gY_n m.gY_c, .slice m.gZ_a m.gZ_n m.gZ_c] 25] w_) 4 #[true, true, true, true, true, true, true, true, false, false, false, false] [(1, iv i), (2, iv j), (3, iv z), (8, .pointer (some ⟨b2, 0, none⟩)), (43, .slice ad2 m.gX_l.length cd2), (46, .slice ad5 m.gY_l.length cd5), (48, .slice m.gZ_a m.gZ_n m.gZ_c)] w20 := by
  intro ad2 cd2 ad5 cd5 w20 S30
  refine WA.all [8, 10] (by kernel_rfl) rfl ⟨?_, ?_, trivial⟩
  ·skip
   refine WO.set #[true, true, true, true, true, true, true, true, true, false, false, false] (by kernel_rfl) ?_
   refine WO.callF 49 26 #[.slice m.gZ_a m.gZ_n m.gZ_c, .func (.func 27) #[] #[]] hb26 (by kernel_rfl) (mappedR_any m.gZ_a m.gZ_n m.gZ_c m.gZ_l _ (q8.sep S30) (fun y hy => rwQ_sep (hm.2.2.2.2.2.2.2.2.1 y hy) S30) (zn_small hm hv) (by omega)) ?_
   rintro _ w21 ⟨ad8, cd8, zo, hcp, rfl, T5⟩
   have hcl := cp_len hcp
   have S31 : Sep w (rowOf rwE ad8 cd8 22 1 zo :: rowOf Eng.encI ad5 cd5 3 1 m.gY_l :: rowOf Eng.encI ad2 cd2 3 1 m.gX_l :: box b2 [.slice none 0 0, .slice none 0 0, .slice none 0 0] 25 :: box b1 [.slice m.gX_a m.gX_n m.gX_c, .slice m.gY_a m.gY_n m.gY_c, .slice m.gZ_a m.gZ_n m.gZ_c] 25 :: tlR zo) w21 := clm_tl0 [rowOf Eng.encI ad5 cd5 3 1 m.gY_l, rowOf Eng.encI ad2 cd2 3 1 m.gX_l, box b2 [.slice none 0 0, .slice none 0 0, .slice none 0 0] 25, box b1 [.slice m.gX_a m.gX_n m.gX_c, .slice m.gY_a m.gY_n m.gY_c, .slice m.gZ_a m.gZ_n m.gZ_c] 25] (S30.trans T5)
   clear T5
   refine WB.mk (S31.sub (.cons _ (.cons _ (.cons _ (.cons_cons _ (.cons_cons _ (List.nil_sublist _))))))) ?_
   refine WA.take 9 50 (.agg #[.slice ad2 m.gX_l.length cd2, .slice ad5 m.gY_l.length cd5, .slice ad8 zo.length cd8]) #[true, true, true, true, true, true, true, true, true, true, false, false] (by kernel_rfl) (by kernel_rfl) (by kernel_rfl) (fun _ _ => by kernel_rfl) (by kernel_rfl) ?_
   refine WA.weaken (env' := [(1, iv i), (2, iv j), (3, iv z), (8, .pointer (some ⟨b2, 0, none⟩)), (50, .agg #[.slice ad2 m.gX_l.length cd2, .slice ad5 m.gY_l.length cd5, .slice ad8 zo.length cd8])]) (by kernel_rfl) ?_
   exact W3 ad2 cd2 ad5 cd5 ad8 cd8 zo hcp hcl w21 S31
  refine WO.set #[true, true, true, true, true, true, true, true, false, false, true, false] (by kernel_rfl) ?_
  refine WO.new S30 10 [.slice none 0 0, .slice none 0 0, .slice none 0 0] 25 (by kernel_rfl) ?_
  intro bd10 w22 S32
  refine WB.mk (((S32.erase 2).erase 1).erase 0) ?_
  refine WA.weaken (env' := [(1, iv i), (2, iv j), (3, iv z), (8, .pointer (some ⟨b2, 0, none⟩)), (10, .pointer (some ⟨bd10, 0, none⟩)), (43, .slice ad2 m.gX_l.length cd2), (46, .slice ad5 m.gY_l.length cd5), (48, .slice m.gZ_a m.gZ_n m.gZ_c)]) (by kernel_rfl) ?_
  have S33 : Sep w [box bd10 [.slice none 0 0, .slice none 0 0, .slice none 0 0] 25, rowOf Eng.encI ad5 cd5 3 1 m.gY_l, rowOf Eng.encI ad2 cd2 3 1 m.gX_l, box b2 [.slice none 0 0, .slice none 0 0, .slice none 0 0] 25, box b1 [.slice m.gX_a m.gX_n m.gX_c, .slice m.gY_a m.gY_n m.gY_c, .slice m.gZ_a m.gZ_n m.gZ_c] 25] w22 := S32.front 0 rfl
  have S34 : Sep w [rowOf Eng.encI ad2 cd2 3 1 m.gX_l, box bd10 [.slice none 0 0, .slice none 0 0, .slice none 0 0] 25, rowOf Eng.encI ad5 cd5 3 1 m.gY_l, box b2 [.slice none 0 0, .slice none 0 0, .slice none 0 0] 25, box b1 [.slice m.gX_a m.gX_n m.gX_c, .slice m.gY_a m.gY_n m.gY_c, .slice m.gZ_a m.gZ_n m.gZ_c] 25] w22 := S33.front 2 rfl
  have S35 : Sep w [rowOf Eng.encI ad5 cd5 3 1 m.gY_l, rowOf Eng.encI ad2 cd2 3 1 m.gX_l, box bd10 [.slice none 0 0, .slice none 0 0, .slice none 0 0] 25, box b2 [.slice none 0 0, .slice none 0 0, .slice none 0 0] 25, box b1 [.slice m.gX_a m.gX_n m.gX_c, .slice m.gY_a m.gY_n m.gY_c, .slice m.gZ_a m.gZ_n m.gZ_c] 25] w22 := S34.front 2 rfl
  exact W4 bd10 ad2 cd2 ad5 cd5 w22 S35
 have W7 : ∀ (ad2 : Option Addr) (cd2 : Nat) (w23 : World), Sep w [rowOf Eng.encI ad2 cd2 3 1 m.gX_l, box b2 [.slice none 0 0, .slice none 0 0, .slice none 0 0] 25, box b1 [.slice m.gX_a m.gX_n m.gX_c, .slice m.gY_a m.gY_n m.gY_c, .slice m.gZ_a m.gZ_n m.gZ_c] 25] w23 → WA Tryz.prog 10 60 R K10_19 (fun w_ => Sep w [box b2 [.slice none 0 0, .slice none 0 0, .slice none 0 0] 25, box b1 [.slice m.gX_a m.gX_n m.gX_c, .slice m.gY_a m.gY_n m.gY_c, .slice m.gZ_a m.gZ_n m.gZ_c] 25] w_) 5 #[true, true, true, true, true, false, true, true, false, false, false, false] [(1, iv i), (2, iv j), (3, iv z), (8, .pointer (some ⟨b2, 0, none⟩)), (43, .slice ad2 m.gX_l.length cd2), (45, .slice m.gY_a m.gY_n m.gY_c), (48, .slice m.gZ_a m.gZ_n m.gZ_c)] w23 := by
  intro ad2 cd2 w23 S36
  refine WA.all [5, 10] (by kernel_rfl) rfl ⟨?_, ?_, trivial⟩
  ·skip
   refine WO.set #[true, true, true, true, true, true, true, true, false, false, false, false] (by kernel_rfl) ?_
   refine WO.callF 46 25 #[.slice m.gY_a m.gY_n m.gY_c] hb25 (by kernel_rfl) (clone_any m.gY_a m.gY_n m.gY_c m.gY_l _ (q5.sep S36) (by omega) (by omega)) ?_
   rintro _ w24 ⟨ad5, cd5, rfl, T6⟩
   have S37 : Sep w [rowOf Eng.encI ad5 cd5 3 1 m.gY_l, rowOf Eng.encI ad2 cd2 3 1 m.gX_l, box b2 [.slice none 0 0, .slice none 0 0, .slice none 0 0] 25, box b1 [.slice m.gX_a m.gX_n m.gX_c, .slice m.gY_a m.gY_n m.gY_c, .slice m.gZ_a m.gZ_n m.gZ_c] 25] w24 := S36.trans T6
   clear T6 S36
   refine WB.mk ((S37.erase 1).erase 0) ?_
   refine WA.weaken (env' := [(1, iv i), (2, iv j), (3, iv z), (8, .pointer (some ⟨b2, 0, none⟩)), (43, .slice ad2 m.gX_l.length cd2), (46, .slice ad5 m.gY_l.length cd5), (48, .slice m.gZ_a m.gZ_n m.gZ_c)]) (by kernel_rfl) ?_
   exact W6 ad2 cd2 ad5 cd5 w24 S37
  refine WO.set #[true, true, true, true, true, false, true, true, false, false, true, false] (by kernel_rfl) ?_
  refine WO.new S36 10 [.slice none 0 0, .slice none 0 0, .slice none 0 0] 25 (by kernel_rfl) ?_
  intro bd10 w25 S38
  refine WB.mk ((S38.erase 1).erase 0) ?_
  refine WA.weaken (env' := [(1, iv i), (2, iv j), (3, iv z), (8, .pointer (some ⟨b2, 0, none⟩)), (10, .pointer (some ⟨bd10, 0, none⟩)), (43, .slice ad2 m.gX_l.length cd2), (45, .slice m.gY_a m.gY_n m.gY_c), (48, .slice m.gZ_a m.gZ_n m.gZ_c)]) (by kernel_rfl) ?_
  have S39 : Sep w [box bd10 [.slice none 0 0, .slice none 0 0, .slice none 0 0] 25, rowOf Eng.encI ad2 cd2 3 1 m.gX_l, box b2 [.slice none 0 0, .slice none 0 0, .slice none 0 0] 25, box b1 [.slice m.gX_a m.gX_n m.gX_c, .slice m.gY_a m.gY_n m.gY_c, .slice m.gZ_a m.gZ_n m.gZ_c] 25] w25 := S38.front 0 rfl
  have S40 : Sep w [rowOf Eng.encI ad2 cd2 3 1 m.gX_l, box bd10 [.slice none 0 0, .slice none 0 0, .slice none 0 0] 25, box b2 [.slice none 0 0, .slice none 0 0, .slice none 0 0] 25, box b1 [.slice m.gX_a m.gX_n m.gX_c, .slice m.gY_a m.gY_n m.gY_c, .slice m.gZ_a m.gZ_n m.gZ_c] 25] w25 := S39.front 1 rfl
  exact W5 bd10 ad2 cd2 w25 S40
 have W8 : ∀ (bd10 : Nat) (w26 : World), Sep w [box bd10 [.slice none 0 0, .slice none 0 0, .slice none 0 0] 25, box b2 [.slice none 0 0, .slice none 0 0, .slice none 0 0] 25, box b1 [.slice m.gX_a m.gX_n m.gX_c, .slice m.gY_a m.gY_n m.gY_c, .slice m.gZ_a m.gZ_n m.gZ_c] 25] w26 → WA Tryz.prog 10 60 R K10_19 (fun w_ => Sep w [box b2 [.slice none 0 0, .slice none 0 0, .slice none 0 0] 25, box b1 [.slice m.gX_a m.gX_n m.gX_c, .slice m.gY_a m.gY_n m.gY_c, .slice m.gZ_a m.gZ_n m.gZ_c] 25] w_) 5 #[true, true, false, true, true, false, true, true, false, false, true, false] [(1, iv i), (2, iv j), (3, iv z), (8, .pointer (some ⟨b2, 0, none⟩)), (10, .pointer (some ⟨bd10, 0, none⟩)), (42, .slice m.gX_a m.gX_n m.gX_c), (45, .slice m.gY_a m.gY_n m.gY_c), (48, .slice m.gZ_a m.gZ_n m.gZ_c)] w26 := by
  intro bd10 w26 S41
  refine WA.all [2] (by kernel_rfl) rfl ⟨?_, trivial⟩
  refine WO.set #[true, true, true, true, true, false, true, true, false, false, true, false] (by kernel_rfl) ?_
  refine WO.callF 43 25 #[.slice m.gX_a m.gX_n m.gX_c] hb25 (by kernel_rfl) (clone_any m.gX_a m.gX_n m.gX_c m.gX_l _ (q2.sep S41) (by omega) (by omega)) ?_
  rintro _ w27 ⟨ad2, cd2, rfl, T7⟩
  have S42 : Sep w [rowOf Eng.encI ad2 cd2 3 1 m.gX_l, box bd10 [.slice none 0 0, .slice none 0 0, .slice none 0 0] 25, box b2 [.slice none 0 0, .slice none 0 0, .slice none 0 0] 25, box b1 [.slice m.gX_a m.gX_n m.gX_c, .slice m.gY_a m.gY_n m.gY_c, .slice m.gZ_a m.gZ_n m.gZ_c] 25] w27 := S41.trans T7
  clear T7 S41
  refine WB.mk ((S42.erase 1).erase 0) ?_
  refine WA.weaken (env' := [(1, iv i), (2, iv j), (3, iv z), (8, .pointer (some ⟨b2, 0, none⟩)), (10, .pointer (some ⟨bd10, 0, none⟩)), (43, .slice ad2 m.gX_l.length cd2), (45, .slice m.gY_a m.gY_n m.gY_c), (48, .slice m.gZ_a m.gZ_n m.gZ_c)]) (by kernel_rfl) ?_
  exact W5 bd10 ad2 cd2 w27 S42
 have W9 : ∀ (w28 : World), Sep w [box b2 [.slice none 0 0, .slice none 0 0, .slice none 0 0] 25, box b1 [.slice m.gX_a m.gX_n m.gX_c, .slice m.gY_a m.gY_n m.gY_c, .slice m.gZ_a m.gZ_n m.gZ_c] 25] w28 → WA Tryz.prog 10 60 R K10_19 (fun w_ => Sep w [box b2 [.slice none 0 0, .slice none 0 0, .slice none 0 0] 25, box b1 [.slice m.gX_a m.gX_n m.gX_c, .slice m.gY_a m.gY_n m.gY_c, .slice m.gZ_a m.gZ_n m.gZ_c] 25] w_) 6 #[true, true, false, true, true, false, true, true, false, false, false, false] [(1, iv i), (2, iv j), (3, iv z), (8, .pointer (some ⟨b2, 0, none⟩)), (42, .slice m.gX_a m.gX_n m.gX_c), (45, .slice m.gY_a m.gY_n m.gY_c), (48, .slice m.gZ_a m.gZ_n m.gZ_c)] w28 := by
  intro w28 S43
  refine WA.all [2, 10] (by kernel_rfl) rfl ⟨?_, ?_, trivial⟩
  ·skip
   refine WO.set #[true, true, true, true, true, false, true, true, false, false, false, false] (by kernel_rfl) ?_
   refine WO.callF 43 25 #[.slice m.gX_a m.gX_n m.gX_c] hb25 (by kernel_rfl) (clone_any m.gX_a m.gX_n m.gX_c m.gX_l _ (q2.sep S43) (by omega) (by omega)) ?_
   rintro _ w29 ⟨ad2, cd2, rfl, T8⟩
   have S44 : Sep w [rowOf Eng.encI ad2 cd2 3 1 m.gX_l, box b2 [.slice none 0 0, .slice none 0 0, .slice none 0 0] 25, box b1 [.slice m.gX_a m.gX_n m.gX_c, .slice m.gY_a m.gY_n m.gY_c, .slice m.gZ_a m.gZ_n m.gZ_c] 25] w29 := S43.trans T8
   clear T8 S43
   refine WB.mk (S44.erase 0) ?_
   refine WA.weaken (env' := [(1, iv i), (2, iv j), (3, iv z), (8, .pointer (some ⟨b2, 0, none⟩)), (43, .slice ad2 m.gX_l.length cd2), (45, .slice m.gY_a m.gY_n m.gY_c), (48, .slice m.gZ_a m.gZ_n m.gZ_c)]) (by kernel_rfl) ?_
   exact W7 ad2 cd2 w29 S44
  refine WO.set #[true, true, false, true, true, false, true, true, false, false, true, false] (by kernel_rfl) ?_
  refine WO.new S43 10 [.slice none 0 0, .slice none 0 0, .slice none 0 0] 25 (by kernel_rfl) ?_
  intro bd10 w30 S45
  refine WB.mk (S45.erase 0) ?_
  refine WA.weaken (env' := [(1, iv i), (2, iv j), (3, iv z), (8, .pointer (some ⟨b2, 0, none⟩)), (10, .pointer (some ⟨bd10, 0, none⟩)), (42, .slice m.gX_a m.gX_n m.gX_c), (45, .slice m.gY_a m.gY_n m.gY_c), (48, .slice m.gZ_a m.gZ_n m.gZ_c)]) (by kernel_rfl) ?_
  exact W8 bd10 w30 S45
 refine J.drawAny (fun w_ => Sep w [box b2 [.slice none 0 0, .slice none 0 0, .slice none 0 0] 25, box b1 [.slice m.gX_a m.gX_n m.gX_c, .slice m.gY_a m.gY_n m.gY_c, .slice m.gZ_a m.gZ_n m.gZ_c] 25] w_) S8 12 #[false, false, false, false, false, false, false, false, false, false, false, false] Tryz.mixed (by kernel_rfl) (by kernel_rfl) (by kernel_rfl) ?_
 intro w31 S46
 refine WB.mk S46 ?_
 refine WA.take 0 41 (.pointer (some ⟨b1, 0, none⟩)) #[true, false, false, false, false, false, false, false, false, false, false, false] (by kernel_rfl) (by kernel_rfl) (by kernel_rfl) (fun _ _ => by kernel_rfl) (by kernel_rfl) ?_
 refine WA.takeOK 1 #[true, true, false, false, false, false, false, false, false, false, false, false] (by kernel_rfl) (by kernel_rfl) (by kernel_rfl) (by kernel_rfl) (fun w_ S_ => OK.ldBox S_ 1 42 22 0 (.slice m.gX_a m.gX_n m.gX_c) (by kernel_rfl) rfl (by kernel_rfl)) rfl ?_
 refine WA.take 3 44 (.pointer (some ⟨b1, 1, none⟩)) #[true, true, false, true, false, false, false, false, false, false, false, false] (by kernel_rfl) (by kernel_rfl) (by kernel_rfl) (fun _ _ => by kernel_rfl) (by kernel_rfl) ?_
 refine WA.takeOK 4 #[true, true, false, true, true, false, false, false, false, false, false, false] (by kernel_rfl) (by kernel_rfl) (by kernel_rfl) (by kernel_rfl) (fun w_ S_ => OK.ldBox S_ 1 45 22 1 (.slice m.gY_a m.gY_n m.gY_c) (by kernel_rfl) rfl (by kernel_rfl)) rfl ?_
 refine WA.take 6 47 (.pointer (some ⟨b1, 2, none⟩)) #[true, true, false, true, true, false, true, false, false, false, false, false] (by kernel_rfl) (by kernel_rfl) (by kernel_rfl) (fun _ _ => by kernel_rfl) (by kernel_rfl) ?_
 refine WA.takeOK 7 #[true, true, false, true, true, false, true, true, false, false, false, false] (by kernel_rfl) (by kernel_rfl) (by kernel_rfl) (by kernel_rfl) (fun w_ S_ => OK.ldBox S_ 1 48 23 2 (.slice m.gZ_a m.gZ_n m.gZ_c) (by kernel_rfl) rfl (by kernel_rfl)) rfl ?_
 refine WA.weaken (env' := [(1, iv i), (2, iv j), (3, iv z), (8, .pointer (some ⟨b2, 0, none⟩)), (42, .slice m.gX_a m.gX_n m.gX_c), (45, .slice m.gY_a m.gY_n m.gY_c), (48, .slice m.gZ_a m.gZ_n m.gZ_c)]) (by kernel_rfl) ?_
 exact W9 w31 S46

end
end Go.Proofs.YtadgnficogeheaaGreatDoor

