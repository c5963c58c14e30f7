/- Walks of functions of this seat, printed by a program over the engine. Conditions: as each theorem says. -/
import Derived.Test.YtadgnficogeheaaGreatDoorZsT24
namespace Go.Proofs.YtadgnficogeheaaGreatDoor
noncomputable section
open Go.Eng Go.RowKit
set_option linter.unusedSimpArgs false
set_option linter.unusedVariables false
/-! what was read, and what is the same -/
theorem lenM_of {w : World} {m : Mp} (h : mpQ w m) : lenM m := by
  obtain ⟨_, h2, _, _, h5, _, _, h8, h9, _⟩ := h
  exact ⟨h2.len_eq.symm, h5.len_eq.symm, h8.len_eq.symm, fun r hr => (h9 r hr).2.1.len_eq.symm⟩
theorem mp_q {w0 w : World} {L : List Eng.Claim} {m : Mp} (S : Sep w0 L w) (hl : lenM m) (hk : okM m) (h1 : (rowOf Eng.encI m.gX_a m.gX_c 3 1 m.gX_l).holds w) (h2 : (rowOf Eng.encI m.gY_a m.gY_c 3 1 m.gY_l).holds w) (h3 : (rowOf rwE m.gZ_a m.gZ_c 22 1 m.gZ_l).holds w) (hs : ∀ c ∈ tlR m.gZ_l, c ∈ L) : mpQ w m := by
  obtain ⟨l1, l2, l3, l4⟩ := hl
  exact ⟨⟨by rw [l1]; exact (rowOf_cells h1).2.2, rowOf_cap h1⟩, row1_ones h1 _ l1.symm, hk.1, ⟨by rw [l2]; exact (rowOf_cells h2).2.2, rowOf_cap h2⟩, row1_ones h2 _ l2.symm, hk.2.1, ⟨by rw [l3]; exact (rowOf_cells h3).2.2, rowOf_cap h3⟩, rowOf_recs h3 _ l3.symm (fun _ => rfl) (by decide), tlR_q S hs hk.2.2, trivial⟩
theorem same_z {c m : Mp} (he : mvM c = mvM m) (i : Nat) : (c.gZ_l.getD i rw0).gS_l = (m.gZ_l.getD i rw0).gS_l := by
  rw [← zl_at, ← zl_at, he]
theorem same_len {c m : Mp} (hl : lenM c) (hk : lenM m) (he : mvM c = mvM m) : c.gX_n = m.gX_n ∧ c.gY_n = m.gY_n ∧ c.gZ_n = m.gZ_n ∧ c.gZ_l.length = m.gZ_l.length := by
  have h1 := congrArg (fun v => v.x.length) he
  have h2 := congrArg (fun v => v.y.length) he
  have h3 := congrArg (fun v => v.z.length) he
  have h3' : c.gZ_l.length = m.gZ_l.length := by
    have : (c.gZ_l.map fun r => r.gS_l).length = (m.gZ_l.map fun r => r.gS_l).length := h3
    rw [List.length_map, List.length_map] at this; exact this
  exact ⟨hl.1.trans (Eq.trans h1 hk.1.symm), hl.2.1.trans (Eq.trans h2 hk.2.1.symm), by rw [hl.2.2.1, hk.2.2.1, h3'], h3'⟩

theorem hb24 : HasBody Tryz.prog 24 := fun _ _ => by kernel_rfl
def K24_0 := adv 13 [] (bodyOf Tryz.f24)
def K24_1 := adv 9 [false] K24_0
def K24_2 := adv 8 [] K24_1
def K24_3 := adv 5 [true] K24_2
def K24_4 := adv 6 [false] (rRest K24_3)
def K24_5 := adv 6 [false] K24_2
set_option maxRecDepth 20000 in
set_option maxHeartbeats 20000000 in
theorem same_any (la : Option Addr) (len cap : Nat) (ma : Option Addr) (mn mc : Nat) (l ml : List Int) (w : World) (hI : Ints w la len l) (hJ : Ints w ma mn ml) (he : l = ml) (hcp : len ≤ 9223372036854775807) : Ret Tryz.prog 24 #[.slice la len cap, .slice ma mn mc] w (fun v w' => v = .bool true ∧ Sep w [] w') := by
 have S0 := Sep.refl w
 refine Ret.named fun R hR => ?_
 refine Ret.of_J (N := 26) [(0, .slice la len cap), (1, .slice ma mn mc)] Tryz.func24 rfl rfl (Nat.le_of_ble_eq_true (by kernel_rfl)) (by kernel_rfl) ?_
 subst he
 have hll := hI.len_eq
 have hml := hJ.len_eq
 refine J.run 13 K24_0 [(10, .bool ((len : Int) != (mn : Int))), (0, .slice la len cap), (1, .slice ma mn mc)] w (by kernel_rfl) ?_
 have fk2 : (len : Int) = (mn : Int) := by omega
 refine J.head (.bool false) (congrArg Value.bool (bne_eq_false_iff_eq.2 fk2)) ?_
 refine J.run 9 K24_1 [(5, iv 0), (0, .slice la len cap), (1, .slice ma mn mc)] w (by kernel_rfl) ?_
 have L24_1 : ∀ (mm_ : Nat) (i : Int) (w1 : World), (0 ≤ i) → (i ≤ (len : Int)) → Sep w [] w1 → ((len : Int) - i).toNat = mm_ → J Tryz.prog 24 26 R K24_1 [(5, iv i), (0, .slice la len cap), (1, .slice ma mn mc)] w1 := by
  intro mm1
  induction mm1 using Nat.strongRecOn with
  | _ mm1 ih1 =>
  intro i w1 h0 h1 S1 hm1
  refine J.run 8 K24_2 [(14, .bool (decide (i < (len : Int)))), (5, iv i), (0, .slice la len cap), (1, .slice ma mn mc)] w1 (by kernel_rfl) ?_
  by_cases fk3 : i < (len : Int)
  rotate_left
  ·skip
   refine J.head (.bool false) (congrArg Value.bool (decide_eq_false fk3)) ?_
   refine J.run 6 K24_5 [(4, .bool true)] w1 (by kernel_rfl) ?_
   refine J.ret Tryz.f24 [.bool true] Tryz.func24 ⟨by kernel_rfl, trivial⟩ ?_
   refine hR _ _ ?_
   exact ⟨rfl, S1.nil⟩
  refine J.head (.bool true) (congrArg Value.bool (decide_eq_true fk3)) ?_
  refine J.run 5 K24_3 [(5, iv i), (0, .slice la len cap), (1, .slice ma mn mc)] w1 (by kernel_rfl) ?_
  obtain ⟨p1, hp1, hc1⟩ := hI.at 0 (i).toNat (by omega)
  obtain ⟨p2, hp2, hc2⟩ := hJ.at 0 (i).toNat (by omega)
  refine J.drawStill S1 9 Tryz.mixed (by kernel_rfl) (by kernel_rfl) (by kernel_rfl) ?_
  intro w2 S2
  refine SL.ok (by decide) (OK.run 17 (.slice la len cap) (by kernel_rfl)) ?_
  refine SL.ok (by decide) (OK.run 18 (iv i) (by kernel_rfl)) ?_
  refine SL.ok (by decide) (OK.index 19 22 1 la p1 len (i).toNat i (p1.add (i).toNat) (by kernel_rfl) (by kernel_rfl) hp1 (by omega) (by omega) (by rw [Nat.mul_one])) ?_
  refine SL.ok (by decide) (OK.ldCell 20 3 (p1.add (i).toNat) (iv (l.getD (i).toNat 0)) (by kernel_rfl) (by kernel_rfl) (S2.cell hc1)) ?_
  refine SL.ok (by decide) (OK.run 21 (.slice ma mn mc) (by kernel_rfl)) ?_
  refine SL.ok (by decide) (OK.run 22 (iv i) (by kernel_rfl)) ?_
  refine SL.ok (by decide) (OK.index 23 22 1 ma p2 mn (i).toNat i (p2.add (i).toNat) (by kernel_rfl) (by kernel_rfl) hp2 (by omega) (by omega) (by rw [Nat.mul_one])) ?_
  refine SL.ok (by decide) (OK.ldCell 24 3 (p2.add (i).toNat) (iv (l.getD (i).toNat 0)) (by kernel_rfl) (by kernel_rfl) (S2.cell hc2)) ?_
  refine SL.ok (by decide) (OK.run 25 (.bool ((l.getD (i).toNat 0) != (l.getD (i).toNat 0))) (by kernel_rfl)) ?_
  refine SL.head (.bool false) (congrArg Value.bool (by simp)) ?_
  refine SL.done ?_
  refine TL.done (by kernel_rfl) ?_
  refine J.run 0 (rRest K24_3) [(25, .bool false), (5, iv i), (0, .slice la len cap), (1, .slice ma mn mc)] w2 (by kernel_rfl) ?_
  refine J.run 6 K24_4 [(16, iv (IntKind.wrap .i64 (i + 1))), (0, .slice la len cap), (1, .slice ma mn mc)] w2 (by kernel_rfl) ?_
  refine J.head (iv (i + 1)) (congrArg (Value.int .i64) (IntWalk.i64_in _ (by omega))) ?_
  refine J.run 3 K24_1 [(5, iv (i + 1)), (0, .slice la len cap), (1, .slice ma mn mc)] w2 (by kernel_rfl) ?_
  refine J.run 0 K24_1 [(5, iv (i + 1)), (0, .slice la len cap), (1, .slice ma mn mc)] w2 (by kernel_rfl) ?_
  exact ih1 _ (show ((len : Int) - (i + 1)).toNat < mm1 from by omega) (i + 1) w2 (by omega) (by omega) S2 rfl
 exact L24_1 _ 0 w (by omega) (by omega) S0 rfl

theorem hb9 : HasBody Tryz.prog 9 := fun _ _ => by kernel_rfl
def K9_0 := adv 2 [] (bodyOf Tryz.f9)
def K9_1 := adv 6 [] (popK (popK K9_0))
def K9_2 := adv 1 [] (popK K9_1)
def K9_3 := adv 3 [] (popK (popK K9_2))
def K9_4 := adv 1 [] (popK K9_3)
def K9_5 := adv 4 [] (popK (popK K9_4))
def K9_6 := adv 2 [] (popK K9_5)
def K9_7 := adv 4 [] (popK K9_6)
def K9_8 := adv 9 [false] K9_7
def K9_9 := adv 5 [] K9_8
def K9_10 := adv 3 [] (popK K9_9)
def K9_11 := adv 5 [true] K9_10
def K9_12 := adv 6 [false] (rRest K9_11)
def K9_13 := adv 6 [false] K9_10
set_option maxRecDepth 20000 in
set_option maxHeartbeats 20000000 in
theorem same6_any (c m : Mp) (w : World) (hc : mpQ w c) (hm : mpQ w m) (he : mvM c = mvM m) : Ret Tryz.prog 9 #[.agg #[.slice c.gX_a c.gX_n c.gX_c, .slice c.gY_a c.gY_n c.gY_c, .slice c.gZ_a c.gZ_n c.gZ_c], .agg #[.slice m.gX_a m.gX_n m.gX_c, .slice m.gY_a m.gY_n m.gY_c, .slice m.gZ_a m.gZ_n m.gZ_c]] w (fun v w' => v = .bool true ∧ Sep w [] w') := by
 have S0 := Sep.refl w
 refine Ret.named fun R hR => ?_
 refine Ret.of_J (N := 48) [(0, .agg #[.slice c.gX_a c.gX_n c.gX_c, .slice c.gY_a c.gY_n c.gY_c, .slice c.gZ_a c.gZ_n c.gZ_c]), (1, .agg #[.slice m.gX_a m.gX_n m.gX_c, .slice m.gY_a m.gY_n m.gY_c, .slice m.gZ_a m.gZ_n m.gZ_c])] Tryz.func9 rfl rfl (Nat.le_of_ble_eq_true (by kernel_rfl)) (by kernel_rfl) ?_
 obtain ⟨q1, q2, q3, q4, q5, q6, q7, q8, q9, _⟩ := id hc
 have ql1 := q2.len_eq
 have ql2 := q5.len_eq
 have ql3 := q8.len_eq
 obtain ⟨q10, q11, q12, q13, q14, q15, q16, q17, q18, _⟩ := id hm
 have ql4 := q11.len_eq
 have ql5 := q14.len_eq
 have ql6 := q17.len_eq
 obtain ⟨hs1, hs2, hs3, hs4⟩ := same_len (lenM_of hc) (lenM_of hm) he
 refine J.run 2 K9_0 [(0, .agg #[.slice c.gX_a c.gX_n c.gX_c, .slice c.gY_a c.gY_n c.gY_c, .slice c.gZ_a c.gZ_n c.gZ_c]), (1, .agg #[.slice m.gX_a m.gX_n m.gX_c, .slice m.gY_a m.gY_n m.gY_c, .slice m.gZ_a m.gZ_n m.gZ_c])] w (by kernel_rfl) ?_
 refine J.new S0 2 [.slice c.gX_a c.gX_n c.gX_c, .slice c.gY_a c.gY_n c.gY_c, .slice c.gZ_a c.gZ_n c.gZ_c] 25 (by kernel_rfl) ?_
 intro b1 w1 S1
 refine J.new S1 3 [.slice m.gX_a m.gX_n m.gX_c, .slice m.gY_a m.gY_n m.gY_c, .slice m.gZ_a m.gZ_n m.gZ_c] 25 (by kernel_rfl) ?_
 intro b2 w2 S2
 refine J.run 6 K9_1 [(6, .pointer (some ⟨b1, 0, none⟩)), (3, .pointer (some ⟨b2, 0, none⟩)), (2, .pointer (some ⟨b1, 0, none⟩))] w2 (by kernel_rfl) ?_
 refine J.ok (OK.ldBox S2 1 7 22 0 (.slice c.gX_a c.gX_n c.gX_c) (by kernel_rfl) rfl (by kernel_rfl)) ?_
 refine J.run 1 K9_2 [(8, .pointer (some ⟨b2, 0, none⟩)), (7, .slice c.gX_a c.gX_n c.gX_c), (3, .pointer (some ⟨b2, 0, none⟩)), (2, .pointer (some ⟨b1, 0, none⟩))] w2 (by kernel_rfl) ?_
 refine J.ok (OK.ldBox S2 0 9 22 0 (.slice m.gX_a m.gX_n m.gX_c) (by kernel_rfl) rfl (by kernel_rfl)) ?_
 refine J.callF 10 24 #[.slice c.gX_a c.gX_n c.gX_c, .slice m.gX_a m.gX_n m.gX_c] hb24 (by kernel_rfl) (same_any c.gX_a c.gX_n c.gX_c m.gX_a m.gX_n m.gX_c c.gX_l m.gX_l _ (q2.sep S2) (q11.sep S2) (congrArg MV.x he) (by omega)) ?_
 rintro _ w3 ⟨rfl, T1⟩
 have S3 : Sep w [box b2 [.slice m.gX_a m.gX_n m.gX_c, .slice m.gY_a m.gY_n m.gY_c, .slice m.gZ_a m.gZ_n m.gZ_c] 25, box b1 [.slice c.gX_a c.gX_n c.gX_c, .slice c.gY_a c.gY_n c.gY_c, .slice c.gZ_a c.gZ_n c.gZ_c] 25] w3 := S2.trans T1
 clear T1 S2
 refine J.run 3 K9_3 [(13, .pointer (some ⟨b1, 1, none⟩)), (12, .bool false), (3, .pointer (some ⟨b2, 0, none⟩)), (2, .pointer (some ⟨b1, 0, none⟩))] w3 (by kernel_rfl) ?_
 refine J.ok (OK.ldBox S3 1 14 22 1 (.slice c.gY_a c.gY_n c.gY_c) (by kernel_rfl) rfl (by kernel_rfl)) ?_
 refine J.run 1 K9_4 [(15, .pointer (some ⟨b2, 1, none⟩)), (14, .slice c.gY_a c.gY_n c.gY_c), (12, .bool false), (3, .pointer (some ⟨b2, 0, none⟩)), (2, .pointer (some ⟨b1, 0, none⟩))] w3 (by kernel_rfl) ?_
 refine J.ok (OK.ldBox S3 0 16 22 1 (.slice m.gY_a m.gY_n m.gY_c) (by kernel_rfl) rfl (by kernel_rfl)) ?_
 refine J.callF 17 24 #[.slice c.gY_a c.gY_n c.gY_c, .slice m.gY_a m.gY_n m.gY_c] hb24 (by kernel_rfl) (same_any c.gY_a c.gY_n c.gY_c m.gY_a m.gY_n m.gY_c c.gY_l m.gY_l _ (q5.sep S3) (q14.sep S3) (congrArg MV.y he) (by omega)) ?_
 rintro _ w4 ⟨rfl, T2⟩
 have S4 : Sep w [box b2 [.slice m.gX_a m.gX_n m.gX_c, .slice m.gY_a m.gY_n m.gY_c, .slice m.gZ_a m.gZ_n m.gZ_c] 25, box b1 [.slice c.gX_a c.gX_n c.gX_c, .slice c.gY_a c.gY_n c.gY_c, .slice c.gZ_a c.gZ_n c.gZ_c] 25] w4 := S3.trans T2
 clear T2 S3
 refine J.run 4 K9_5 [(21, .pointer (some ⟨b1, 2, none⟩)), (20, .bool false), (3, .pointer (some ⟨b2, 0, none⟩)), (2, .pointer (some ⟨b1, 0, none⟩))] w4 (by kernel_rfl) ?_
 refine J.ok (OK.ldBox S4 1 22 23 2 (.slice c.gZ_a c.gZ_n c.gZ_c) (by kernel_rfl) rfl (by kernel_rfl)) ?_
 refine J.run 2 K9_6 [(24, .pointer (some ⟨b2, 2, none⟩)), (23, iv (c.gZ_n : Int)), (20, .bool false), (3, .pointer (some ⟨b2, 0, none⟩)), (2, .pointer (some ⟨b1, 0, none⟩))] w4 (by kernel_rfl) ?_
 refine J.ok (OK.ldBox S4 0 25 23 2 (.slice m.gZ_a m.gZ_n m.gZ_c) (by kernel_rfl) rfl (by kernel_rfl)) ?_
 refine J.run 4 K9_7 [(28, .bool ((c.gZ_n : Int) != (m.gZ_n : Int))), (3, .pointer (some ⟨b2, 0, none⟩)), (2, .pointer (some ⟨b1, 0, none⟩))] w4 (by kernel_rfl) ?_
 have fk2 : (c.gZ_n : Int) = (m.gZ_n : Int) := by omega
 refine J.head (.bool false) (congrArg Value.bool (bne_eq_false_iff_eq.2 fk2)) ?_
 refine J.run 9 K9_8 [(5, iv 0), (3, .pointer (some ⟨b2, 0, none⟩)), (2, .pointer (some ⟨b1, 0, none⟩))] w4 (by kernel_rfl) ?_
 have L9_1 : ∀ (mm_ : Nat) (i : Int) (w5 : World), (0 ≤ i) → (i ≤ (c.gZ_n : Int)) → Sep w [box b2 [.slice m.gX_a m.gX_n m.gX_c, .slice m.gY_a m.gY_n m.gY_c, .slice m.gZ_a m.gZ_n m.gZ_c] 25, box b1 [.slice c.gX_a c.gX_n c.gX_c, .slice c.gY_a c.gY_n c.gY_c, .slice c.gZ_a c.gZ_n c.gZ_c] 25] w5 → ((c.gZ_n : Int) - i).toNat = mm_ → J Tryz.prog 9 48 R K9_8 [(5, iv i), (3, .pointer (some ⟨b2, 0, none⟩)), (2, .pointer (some ⟨b1, 0, none⟩))] w5 := by
  intro mm1
  induction mm1 using Nat.strongRecOn with
  | _ mm1 ih1 =>
  intro i w5 h0 h1 S5 hm1
  refine J.run 5 K9_9 [(30, .pointer (some ⟨b1, 2, none⟩)), (29, iv i), (5, iv i), (3, .pointer (some ⟨b2, 0, none⟩)), (2, .pointer (some ⟨b1, 0, none⟩))] w5 (by kernel_rfl) ?_
  refine J.ok (OK.ldBox S5 1 31 23 2 (.slice c.gZ_a c.gZ_n c.gZ_c) (by kernel_rfl) rfl (by kernel_rfl)) ?_
  refine J.run 3 K9_10 [(33, .bool (decide (i < (c.gZ_n : Int)))), (5, iv i), (3, .pointer (some ⟨b2, 0, none⟩)), (2, .pointer (some ⟨b1, 0, none⟩))] w5 (by kernel_rfl) ?_
  by_cases fk3 : i < (c.gZ_n : Int)
  rotate_left
  ·skip
   refine J.head (.bool false) (congrArg Value.bool (decide_eq_false fk3)) ?_
   refine J.run 6 K9_13 [(4, .bool true)] w5 (by kernel_rfl) ?_
   refine J.ret Tryz.f9 [.bool true] Tryz.func9 ⟨by kernel_rfl, trivial⟩ ?_
   refine hR _ _ ?_
   exact ⟨rfl, S5.nil⟩
  refine J.head (.bool true) (congrArg Value.bool (decide_eq_true fk3)) ?_
  refine J.run 5 K9_11 [(5, iv i), (3, .pointer (some ⟨b2, 0, none⟩)), (2, .pointer (some ⟨b1, 0, none⟩))] w5 (by kernel_rfl) ?_
  obtain ⟨p1, hp1, hc1⟩ := q8.at rw0 (i).toNat (by omega)
  have hel1 := getD_Q q9 rw0 (n := (i).toNat) (by have := q8.len_eq; omega)
  obtain ⟨q19, q20, q21, _⟩ := id hel1
  have ql7 := q20.len_eq
  obtain ⟨p2, hp2, hc2⟩ := q17.at rw0 (i).toNat (by omega)
  have hel2 := getD_Q q18 rw0 (n := (i).toNat) (by have := q17.len_eq; omega)
  obtain ⟨q22, q23, q24, _⟩ := id hel2
  have ql8 := q23.len_eq
  refine J.drawTail S5 10 Tryz.mixed (by kernel_rfl) (by kernel_rfl) ?_
  intro w6 S6
  refine SL.ok (by decide) (OK.run 36 (.pointer (some ⟨b1, 2, none⟩)) (by kernel_rfl)) ?_
  refine SL.ok (by decide) (OK.ldBox S6 1 37 23 2 (.slice c.gZ_a c.gZ_n c.gZ_c) (by kernel_rfl) rfl (by kernel_rfl)) ?_
  refine SL.ok (by decide) (OK.run 38 (iv i) (by kernel_rfl)) ?_
  refine SL.ok (by decide) (OK.index 39 23 1 c.gZ_a p1 c.gZ_n (i).toNat i (p1.add ((i).toNat * 1)) (by kernel_rfl) (by kernel_rfl) hp1 (by omega) (by omega) rfl) ?_
  refine SL.ok (by decide) (OK.ldCell 40 22 (p1.add ((i).toNat * 1)) (.slice ((c.gZ_l.getD (i).toNat rw0).gS_a) ((c.gZ_l.getD (i).toNat rw0).gS_n) ((c.gZ_l.getD (i).toNat rw0).gS_c)) (by kernel_rfl) (by kernel_rfl) (S6.cell (cell_zero (hc1 0 _ rfl)))) ?_
  refine SL.ok (by decide) (OK.run 41 (.pointer (some ⟨b2, 2, none⟩)) (by kernel_rfl)) ?_
  refine SL.ok (by decide) (OK.ldBox S6 0 42 23 2 (.slice m.gZ_a m.gZ_n m.gZ_c) (by kernel_rfl) rfl (by kernel_rfl)) ?_
  refine SL.ok (by decide) (OK.run 43 (iv i) (by kernel_rfl)) ?_
  refine SL.ok (by decide) (OK.index 44 23 1 m.gZ_a p2 m.gZ_n (i).toNat i (p2.add ((i).toNat * 1)) (by kernel_rfl) (by kernel_rfl) hp2 (by omega) (by omega) rfl) ?_
  refine SL.ok (by decide) (OK.ldCell 45 22 (p2.add ((i).toNat * 1)) (.slice ((m.gZ_l.getD (i).toNat rw0).gS_a) ((m.gZ_l.getD (i).toNat rw0).gS_n) ((m.gZ_l.getD (i).toNat rw0).gS_c)) (by kernel_rfl) (by kernel_rfl) (S6.cell (cell_zero (hc2 0 _ rfl)))) ?_
  refine SL.done ?_
  refine TL.callF 46 24 #[.slice ((c.gZ_l.getD (i).toNat rw0).gS_a) ((c.gZ_l.getD (i).toNat rw0).gS_n) ((c.gZ_l.getD (i).toNat rw0).gS_c), .slice ((m.gZ_l.getD (i).toNat rw0).gS_a) ((m.gZ_l.getD (i).toNat rw0).gS_n) ((m.gZ_l.getD (i).toNat rw0).gS_c)] hb24 (by kernel_rfl) (same_any ((c.gZ_l.getD (i).toNat rw0).gS_a) ((c.gZ_l.getD (i).toNat rw0).gS_n) ((c.gZ_l.getD (i).toNat rw0).gS_c) ((m.gZ_l.getD (i).toNat rw0).gS_a) ((m.gZ_l.getD (i).toNat rw0).gS_n) ((m.gZ_l.getD (i).toNat rw0).gS_c) ((c.gZ_l.getD (i).toNat rw0).gS_l) ((m.gZ_l.getD (i).toNat rw0).gS_l) _ (q20.sep S6) (q23.sep S6) (same_z he _) (by have h_ := (getD_Q hc.2.2.2.2.2.2.2.2.1 rw0 (n := (i).toNat) (by omega)).1; omega)) ?_
  rintro _ w7 ⟨rfl, T3⟩
  have S7 : Sep w [box b2 [.slice m.gX_a m.gX_n m.gX_c, .slice m.gY_a m.gY_n m.gY_c, .slice m.gZ_a m.gZ_n m.gZ_c] 25, box b1 [.slice c.gX_a c.gX_n c.gX_c, .slice c.gY_a c.gY_n c.gY_c, .slice c.gZ_a c.gZ_n c.gZ_c] 25] w7 := S6.trans T3
  clear T3 S6
  refine TL.ok (OK.run 47 (.bool false) (by kernel_rfl)) ?_
  refine TL.done (by kernel_rfl) ?_
  refine J.run 0 (rRest K9_11) [(47, .bool false), (5, iv i), (3, .pointer (some ⟨b2, 0, none⟩)), (2, .pointer (some ⟨b1, 0, none⟩))] w7 (by kernel_rfl) ?_
  refine J.run 6 K9_12 [(35, iv (IntKind.wrap .i64 (i + 1))), (3, .pointer (some ⟨b2, 0, none⟩)), (2, .pointer (some ⟨b1, 0, none⟩))] w7 (by kernel_rfl) ?_
  refine J.head (iv (i + 1)) (congrArg (Value.int .i64) (IntWalk.i64_in _ (by omega))) ?_
  refine J.run 3 K9_8 [(5, iv (i + 1)), (3, .pointer (some ⟨b2, 0, none⟩)), (2, .pointer (some ⟨b1, 0, none⟩))] w7 (by kernel_rfl) ?_
  refine J.run 0 K9_8 [(5, iv (i + 1)), (3, .pointer (some ⟨b2, 0, none⟩)), (2, .pointer (some ⟨b1, 0, none⟩))] w7 (by kernel_rfl) ?_
  exact ih1 _ (show ((c.gZ_n : Int) - (i + 1)).toNat < mm1 from by omega) (i + 1) w7 (by omega) (by omega) S7 rfl
 exact L9_1 _ 0 w4 (by omega) (by omega) S4 rfl

end
end Go.Proofs.YtadgnficogeheaaGreatDoor

