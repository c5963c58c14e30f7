/- Walks of functions of this seat, printed by a program over the engine. Conditions: as each theorem says. -/
import Derived.Test.YtdilhoibcbihlaaDoorZV10
namespace Go.Proofs.YtdilhoibcbihlaaDoor
open Go.Eng Go.RowKit
set_option linter.unusedSimpArgs false
set_option linter.unusedVariables false
theorem gcd_pos {a b : Int} (h : 0 < b ∧ b ≤ 4294967296) : 1 ≤ gcdF a b ∧ gcdF a b ≤ b := by
  have h1 : 0 < Nat.gcd a.natAbs b.natAbs := Nat.gcd_pos_of_pos_right _ (by omega)
  have h2 := Nat.gcd_le_right a.natAbs (show 0 < b.natAbs by omega)
  unfold gcdF; rw [if_neg (by omega)]; omega
def redF (a b : Int) : Int := IntKind.wrap .i64 (Int.tdiv a (gcdF a b))
def redD (a b : Int) : Int := IntKind.wrap .i64 (Int.tdiv b (gcdF a b))
def slN (c : Crv) (x : Int) : Int := c.gY_l.getD (segF c.gX_l x + 1) 0 - c.gY_l.getD (segF c.gX_l x) 0
def slD (c : Crv) (x : Int) : Int := c.gX_l.getD (segF c.gX_l x + 1) 0 - c.gX_l.getD (segF c.gX_l x) 0
def slIn (c : Crv) (x : Int) : Prop := c.gX_l.getD 0 0 ≤ x ∧ x < c.gX_l.getD (c.gX_l.length - 1) 0
instance (c : Crv) (x : Int) : Decidable (slIn c x) := by unfold slIn; infer_instance
def slopeN (c : Crv) (x : Int) : Int := if validV c then if slIn c x then redF (slN c x) (slD c x) else 0 else 0
def slopeD (c : Crv) (x : Int) : Int := if validV c then if slIn c x then redD (slN c x) (slD c x) else 1 else 0
theorem slope_no {c : Crv} {x : Int} (h : validV c = false) : slopeN c x = 0 ∧ slopeD c x = 0 := by unfold slopeN slopeD; rw [h]; exact ⟨rfl, rfl⟩
theorem slope_out {c : Crv} {x : Int} (hv : validV c = true) (h : x < c.gX_l.getD 0 0 ∨ c.gX_l.getD ((c.gX_n : Int) - 1).toNat 0 ≤ x) (hX : c.gX_l.length = c.gX_n) : slopeN c x = 0 ∧ slopeD c x = 1 := by
  have hn : ¬ slIn c x := by unfold slIn; rw [show c.gX_l.length - 1 = ((c.gX_n : Int) - 1).toNat by omega]; omega
  unfold slopeN slopeD; rw [if_pos hv, if_pos hv, if_neg hn, if_neg hn]; exact ⟨rfl, rfl⟩
theorem slope_seg {c : Crv} {x i : Int} (hv : validV c = true) (h0 : 0 ≤ i ∧ i + 1 < (c.gX_l.length : Int)) (h1 : c.gX_l.getD i.toNat 0 ≤ x) (h2 : x < c.gX_l.getD (i + 1).toNat 0) :
    slopeN c x = redF (c.gY_l.getD (i + 1).toNat 0 - c.gY_l.getD i.toNat 0) (c.gX_l.getD (i + 1).toNat 0 - c.gX_l.getD i.toNat 0) ∧
    slopeD c x = redD (c.gY_l.getD (i + 1).toNat 0 - c.gY_l.getD i.toNat 0) (c.gX_l.getD (i + 1).toNat 0 - c.gX_l.getD i.toNat 0) := by
  have ax := (validV_facts hv).2.1
  have e : (i + 1).toNat = i.toNat + 1 := by omega
  rw [e] at h2 ⊢
  have hs := seg_eq ax (by omega) h1 h2
  have hi : slIn c x := ⟨Int.le_trans (axis_le ax (Nat.zero_le _) (by omega)) h1, by have := axis_le ax (show i.toNat + 1 ≤ c.gX_l.length - 1 by omega) (by omega); omega⟩
  unfold slopeN slopeD slN slD; rw [if_pos hv, if_pos hv, if_pos hi, if_pos hi, hs]; exact ⟨rfl, rfl⟩

theorem hb47 : HasBody Tryd.prog 47 := fun _ _ => by kernel_rfl
noncomputable def K47_0 : List Item := adv 2 [] (bodyOf Tryd.f47)
noncomputable def K47_1 : List Item := adv 5 [] (popK K47_0)
noncomputable def K47_2 : List Item := adv 3 [] (popK K47_1)
set_option maxRecDepth 20000 in
set_option maxHeartbeats 20000000 in
theorem cratio_any (a b : Int) (w : World) (ha : -4294967296 ≤ a ∧ a ≤ 4294967296) (hb : 0 < b ∧ b ≤ 4294967296) : Ret Tryd.prog 47 #[.int .i64 a, .int .i64 b] w (fun v w' => v = .agg #[.int .i64 (redF a b), .int .i64 (redD a b)] ∧ Sep w [] w') := by
  have S0 := Sep.refl w
  refine Ret.named fun R hR => ?_
  refine Ret.of_J (N := 16) [(0, .int .i64 a), (1, .int .i64 b)] Tryd.func47 rfl rfl (Nat.le_of_ble_eq_true (by kernel_rfl)) (by kernel_rfl) ?_
  have hgp := gcd_pos (a := a) (b := b) hb
  refine J.run 2 K47_0 [(0, .int .i64 a), (1, .int .i64 b)] w (by kernel_rfl) ?_
  refine J.new S0 4 [.int .i64 0, .int .i64 0] 46 (by kernel_rfl) ?_
  intro b1 w1 S1
  refine J.run 5 K47_1 [(7, .int .i64 b), (6, .int .i64 a), (4, .pointer (some ⟨b1, 0, none⟩)), (0, .int .i64 a), (1, .int .i64 b)] w1 (by kernel_rfl) ?_
  refine J.callF 8 60 #[.int .i64 a, .int .i64 b] hb60 (by kernel_rfl) (gcd_any a b _ (by omega) (by omega)) ?_
  rintro _ w2 ⟨rfl, T1⟩
  have S2 : Sep w [box b1 [.int .i64 0, .int .i64 0] 46] w2 := S1.trans T1
  clear T1 S1
  refine J.run 3 K47_2 [(5, .int .i64 (gcdF a b)), (4, .pointer (some ⟨b1, 0, none⟩)), (0, .int .i64 a), (1, .int .i64 b)] w2 (by kernel_rfl) ?_
  refine J.drawTail S2 7 Tryd.mixed (by kernel_rfl) (by kernel_rfl) ?_
  intro w3 S3
  refine SL.ok (by decide) (OK.run 9 (.int .i64 a) (by kernel_rfl)) ?_
  refine SL.ok (by decide) (OK.run 10 (.int .i64 (gcdF a b)) (by kernel_rfl)) ?_
  refine SL.ok (by decide) (OK.quo 11 .i64 a (gcdF a b) (by kernel_rfl) (by omega)) ?_
  refine SL.ok (by decide) (OK.run 12 (.int .i64 b) (by kernel_rfl)) ?_
  refine SL.ok (by decide) (OK.run 13 (.int .i64 (gcdF a b)) (by kernel_rfl)) ?_
  refine SL.ok (by decide) (OK.quo 14 .i64 b (gcdF a b) (by kernel_rfl) (by omega)) ?_
  refine SL.ok (by decide) (OK.run 15 (.agg #[.int .i64 (IntKind.wrap .i64 (Int.tdiv a (gcdF a b))), .int .i64 (IntKind.wrap .i64 (Int.tdiv b (gcdF a b)))]) (by kernel_rfl)) ?_
  refine SL.done ?_
  refine TL.stBox S3 0 46 0 (.agg #[.int .i64 (IntKind.wrap .i64 (Int.tdiv a (gcdF a b))), .int .i64 (IntKind.wrap .i64 (Int.tdiv b (gcdF a b)))]) [.int .i64 (IntKind.wrap .i64 (Int.tdiv a (gcdF a b))), .int .i64 (IntKind.wrap .i64 (Int.tdiv b (gcdF a b)))] [box b1 [.int .i64 (IntKind.wrap .i64 (Int.tdiv a (gcdF a b))), .int .i64 (IntKind.wrap .i64 (Int.tdiv b (gcdF a b)))] 46] (by kernel_rfl) rfl (by kernel_rfl) (by kernel_rfl) rfl ?_
  intro w4 S4
  refine TL.done (by kernel_rfl) ?_
  refine J.run 0 (rRest K47_2) [(4, .pointer (some ⟨b1, 0, none⟩))] w4 (by kernel_rfl) ?_
  refine J.ret Tryd.f47 [.agg #[.int .i64 (IntKind.wrap .i64 (Int.tdiv a (gcdF a b))), .int .i64 (IntKind.wrap .i64 (Int.tdiv b (gcdF a b)))]] Tryd.func47 ⟨⟨⟨b1, 0, none⟩, by kernel_rfl, ldV_run (S4.nth 0 rfl) (by kernel_rfl)⟩, trivial⟩ ?_
  refine hR _ _ ?_
  exact ⟨rfl, S4.nil⟩

theorem hb21 : HasBody Tryd.prog 21 := fun _ _ => by kernel_rfl
noncomputable def K21_0 : List Item := adv 2 [] (bodyOf Tryd.f21)
noncomputable def K21_1 : List Item := adv 4 [] (popK (popK K21_0))
noncomputable def K21_2 : List Item := adv 2 [] (popK (popK K21_1))
noncomputable def K21_3 : List Item := adv 7 [false] K21_2
noncomputable def K21_4 : List Item := adv 2 [] (popK (popK (popK K21_3)))
noncomputable def K21_5 : List Item := adv 16 [true] K21_4
noncomputable def K21_6 : List Item := adv 1 [] (popK K21_5)
noncomputable def K21_7 : List Item := adv 2 [] K21_4
noncomputable def K21_8 : List Item := adv 1 [] (popK K21_7)
noncomputable def K21_9 : List Item := adv 2 [] (popK K21_8)
noncomputable def K21_10 : List Item := adv 3 [] (popK (popK K21_9))
noncomputable def K21_11 : List Item := adv 4 [true] K21_10
noncomputable def K21_12 : List Item := adv 1 [] (popK K21_11)
noncomputable def K21_13 : List Item := adv 4 [false] K21_10
noncomputable def K21_14 : List Item := adv 1 [] (popK K21_13)
noncomputable def K21_15 : List Item := adv 3 [] (popK K21_14)
noncomputable def K21_16 : List Item := adv 4 [true] K21_2
noncomputable def K21_17 : List Item := adv 1 [] (popK K21_16)
set_option maxRecDepth 20000 in
set_option maxHeartbeats 20000000 in
theorem cslope_any (c : Crv) (x : Int) (w : World) (hc : crvQ w c) : Ret Tryd.prog 21 #[.agg #[.slice c.gX_a c.gX_n c.gX_c, .slice c.gY_a c.gY_n c.gY_c], .int .i64 x] w (fun v w' => v = .agg #[.int .i64 (slopeN c x), .int .i64 (slopeD c x)] ∧ Sep w [] w') := by
  have S0 := Sep.refl w
  refine Ret.named fun R hR => ?_
  refine Ret.of_J (N := 57) [(0, .agg #[.slice c.gX_a c.gX_n c.gX_c, .slice c.gY_a c.gY_n c.gY_c]), (1, .int .i64 x)] Tryd.func21 rfl rfl (Nat.le_of_ble_eq_true (by kernel_rfl)) (by kernel_rfl) ?_
  obtain ⟨q1, q2, q3, q4, q5, q6, _⟩ := id hc
  have ql1 := q2.len_eq
  have ql2 := q5.len_eq
  refine J.run 2 K21_0 [(0, .agg #[.slice c.gX_a c.gX_n c.gX_c, .slice c.gY_a c.gY_n c.gY_c]), (1, .int .i64 x)] w (by kernel_rfl) ?_
  refine J.new S0 2 [.slice c.gX_a c.gX_n c.gX_c, .slice c.gY_a c.gY_n c.gY_c] 24 (by kernel_rfl) ?_
  intro b1 w1 S1
  refine J.new S1 4 [.int .i64 0, .int .i64 0] 46 (by kernel_rfl) ?_
  intro b2 w2 S2
  refine J.run 4 K21_1 [(4, .pointer (some ⟨b2, 0, none⟩)), (2, .pointer (some ⟨b1, 0, none⟩)), (1, .int .i64 x)] w2 (by kernel_rfl) ?_
  refine J.ok (OK.ldBox S2 1 6 24 0 (.agg #[.slice c.gX_a c.gX_n c.gX_c, .slice c.gY_a c.gY_n c.gY_c]) (by kernel_rfl) rfl (by kernel_rfl)) ?_
  refine J.callF 7 16 #[.agg #[.slice c.gX_a c.gX_n c.gX_c, .slice c.gY_a c.gY_n c.gY_c]] hb16 (by kernel_rfl) (cvalid_any c _ (crvQ_sep hc S2)) ?_
  rintro _ w3 ⟨rfl, T1⟩
  have S3 : Sep w [box b2 [.int .i64 0, .int .i64 0] 46, box b1 [.slice c.gX_a c.gX_n c.gX_c, .slice c.gY_a c.gY_n c.gY_c] 24] w3 := S2.trans T1
  clear T1 S2
  refine J.run 2 K21_2 [(8, .bool (!(validV c))), (4, .pointer (some ⟨b2, 0, none⟩)), (2, .pointer (some ⟨b1, 0, none⟩)), (1, .int .i64 x)] w3 (by kernel_rfl) ?_
  rcases Bool.eq_false_or_eq_true (validV c) with fk1 | fk1
  · skip
    refine J.head (.bool false) (congrArg Value.bool (by rw [fk1]; rfl)) ?_
    have hv := fk1
    obtain ⟨hv1, hv2, hv3⟩ := validV_facts hv
    obtain ⟨hx1, hx2, hx3⟩ := axis_facts hv2
    have hX : c.gX_l.length = c.gX_n := by omega
    have hY : c.gY_l.length = c.gX_n := by omega
    have hxm := axis_mono hv2 (show 0 < ((c.gX_n : Int) - 1).toNat by omega) (by omega)
    have hx0 := hx2 0 (by omega)
    have hxl := hx2 ((c.gX_n : Int) - 1).toNat (by omega)
    have hdv : dirV c = dirL c.gY_l := by unfold dirV; rw [hv]; rfl
    have hyn : ((c.gY_n : Int) - 1).toNat = ((c.gX_n : Int) - 1).toNat := by omega
    refine J.run 7 K21_3 [(11, .pointer (some ⟨b1, 0, none⟩)), (10, .int .i64 x), (4, .pointer (some ⟨b2, 0, none⟩)), (2, .pointer (some ⟨b1, 0, none⟩)), (1, .int .i64 x)] w3 (by kernel_rfl) ?_
    refine J.ok (OK.ldBox S3 1 12 22 0 (.slice c.gX_a c.gX_n c.gX_c) (by kernel_rfl) rfl (by kernel_rfl)) ?_
    obtain ⟨p1, hp1, hc1⟩ := q2.at 0 0 (by omega)
    have hel1 := getD_Q q3 0 (n := 0) (by have := q2.len_eq; omega)
    refine J.ok (OK.index 13 22 1 c.gX_a p1 c.gX_n 0 0 (p1.add 0) (by kernel_rfl) (by kernel_rfl) hp1 (by omega) (by omega) (by rw [Nat.mul_one])) ?_
    refine J.ok (OK.ldCell 14 3 (p1.add 0) (.int .i64 (c.gX_l.getD 0 0)) (by kernel_rfl) (by kernel_rfl) (S3.cell hc1)) ?_
    refine J.run 2 K21_4 [(16, .bool (decide (x < (c.gX_l.getD 0 0)))), (4, .pointer (some ⟨b2, 0, none⟩)), (2, .pointer (some ⟨b1, 0, none⟩)), (1, .int .i64 x)] w3 (by kernel_rfl) ?_
    by_cases fk2 : x < (c.gX_l.getD 0 0)
    · skip
      refine J.head (.bool true) (congrArg Value.bool (decide_eq_true fk2)) ?_
      refine J.run 16 K21_5 [(28, .agg #[.int .i64 0, .int .i64 1]), (4, .pointer (some ⟨b2, 0, none⟩))] w3 (by kernel_rfl) ?_
      refine J.stBox S3 0 46 0 (.agg #[.int .i64 0, .int .i64 1]) [.int .i64 0, .int .i64 1] [box b2 [.int .i64 0, .int .i64 1] 46, box b1 [.slice c.gX_a c.gX_n c.gX_c, .slice c.gY_a c.gY_n c.gY_c] 24] (by kernel_rfl) rfl (by kernel_rfl) (by kernel_rfl) rfl ?_
      intro w4 S4
      refine J.run 1 K21_6 [(4, .pointer (some ⟨b2, 0, none⟩))] w4 (by kernel_rfl) ?_
      refine J.ret Tryd.f21 [.agg #[.int .i64 0, .int .i64 1]] Tryd.func21 ⟨⟨⟨b2, 0, none⟩, by kernel_rfl, ldV_run (S4.nth 0 rfl) (by kernel_rfl)⟩, trivial⟩ ?_
      refine hR _ _ ?_
      obtain ⟨e1, e2⟩ := slope_out (c := c) (x := x) hv (by first | omega | (rw [show i.toNat = ((c.gX_n : Int) - 1).toNat by omega] at hq; omega)) hX
      exact ⟨by rw [e1, e2]; rfl, S4.nil⟩
    · skip
      refine J.head (.bool false) (congrArg Value.bool (decide_eq_false fk2)) ?_
      refine J.run 2 K21_7 [(18, .pointer (some ⟨b1, 0, none⟩)), (17, .int .i64 x), (16, .bool false), (4, .pointer (some ⟨b2, 0, none⟩)), (2, .pointer (some ⟨b1, 0, none⟩)), (1, .int .i64 x)] w3 (by kernel_rfl) ?_
      refine J.ok (OK.ldBox S3 1 19 22 0 (.slice c.gX_a c.gX_n c.gX_c) (by kernel_rfl) rfl (by kernel_rfl)) ?_
      refine J.run 1 K21_8 [(20, .pointer (some ⟨b1, 0, none⟩)), (19, .slice c.gX_a c.gX_n c.gX_c), (17, .int .i64 x), (16, .bool false), (4, .pointer (some ⟨b2, 0, none⟩)), (2, .pointer (some ⟨b1, 0, none⟩)), (1, .int .i64 x)] w3 (by kernel_rfl) ?_
      refine J.ok (OK.ldBox S3 1 21 22 0 (.slice c.gX_a c.gX_n c.gX_c) (by kernel_rfl) rfl (by kernel_rfl)) ?_
      refine J.run 2 K21_9 [(23, .int .i64 (IntKind.wrap .i64 ((c.gX_n : Int) - 1))), (19, .slice c.gX_a c.gX_n c.gX_c), (17, .int .i64 x), (16, .bool false), (4, .pointer (some ⟨b2, 0, none⟩)), (2, .pointer (some ⟨b1, 0, none⟩)), (1, .int .i64 x)] w3 (by kernel_rfl) ?_
      refine J.head (.int .i64 ((c.gX_n : Int) - 1)) (congrArg (Value.int .i64) (IntWalk.i64_in _ (by omega))) ?_
      obtain ⟨p2, hp2, hc2⟩ := q2.at 0 ((c.gX_n : Int) - 1).toNat (by omega)
      have hel2 := getD_Q q3 0 (n := ((c.gX_n : Int) - 1).toNat) (by have := q2.len_eq; omega)
      refine J.ok (OK.index 24 22 1 c.gX_a p2 c.gX_n ((c.gX_n : Int) - 1).toNat ((c.gX_n : Int) - 1) (p2.add ((c.gX_n : Int) - 1).toNat) (by kernel_rfl) (by kernel_rfl) hp2 (by omega) (by omega) (by rw [Nat.mul_one])) ?_
      refine J.ok (OK.ldCell 25 3 (p2.add ((c.gX_n : Int) - 1).toNat) (.int .i64 (c.gX_l.getD ((c.gX_n : Int) - 1).toNat 0)) (by kernel_rfl) (by kernel_rfl) (S3.cell hc2)) ?_
      refine J.run 3 K21_10 [(27, .bool (decide (x ≥ (c.gX_l.getD ((c.gX_n : Int) - 1).toNat 0)))), (4, .pointer (some ⟨b2, 0, none⟩)), (2, .pointer (some ⟨b1, 0, none⟩)), (1, .int .i64 x)] w3 (by kernel_rfl) ?_
      by_cases fk3 : x ≥ (c.gX_l.getD ((c.gX_n : Int) - 1).toNat 0)
      · skip
        refine J.head (.bool true) (congrArg Value.bool (decide_eq_true fk3)) ?_
        refine J.run 4 K21_11 [(28, .agg #[.int .i64 0, .int .i64 1]), (4, .pointer (some ⟨b2, 0, none⟩))] w3 (by kernel_rfl) ?_
        refine J.stBox S3 0 46 0 (.agg #[.int .i64 0, .int .i64 1]) [.int .i64 0, .int .i64 1] [box b2 [.int .i64 0, .int .i64 1] 46, box b1 [.slice c.gX_a c.gX_n c.gX_c, .slice c.gY_a c.gY_n c.gY_c] 24] (by kernel_rfl) rfl (by kernel_rfl) (by kernel_rfl) rfl ?_
        intro w5 S5
        refine J.run 1 K21_12 [(4, .pointer (some ⟨b2, 0, none⟩))] w5 (by kernel_rfl) ?_
        refine J.ret Tryd.f21 [.agg #[.int .i64 0, .int .i64 1]] Tryd.func21 ⟨⟨⟨b2, 0, none⟩, by kernel_rfl, ldV_run (S5.nth 0 rfl) (by kernel_rfl)⟩, trivial⟩ ?_
        refine hR _ _ ?_
        obtain ⟨e1, e2⟩ := slope_out (c := c) (x := x) hv (by first | omega | (rw [show i.toNat = ((c.gX_n : Int) - 1).toNat by omega] at hq; omega)) hX
        exact ⟨by rw [e1, e2]; rfl, S5.nil⟩
      · skip
        refine J.head (.bool false) (congrArg Value.bool (decide_eq_false fk3)) ?_
        refine J.run 4 K21_13 [(4, .pointer (some ⟨b2, 0, none⟩)), (2, .pointer (some ⟨b1, 0, none⟩)), (1, .int .i64 x)] w3 (by kernel_rfl) ?_
        refine J.ok (OK.ldBox S3 1 29 24 0 (.agg #[.slice c.gX_a c.gX_n c.gX_c, .slice c.gY_a c.gY_n c.gY_c]) (by kernel_rfl) rfl (by kernel_rfl)) ?_
        refine J.run 1 K21_14 [(30, .int .i64 x), (29, .agg #[.slice c.gX_a c.gX_n c.gX_c, .slice c.gY_a c.gY_n c.gY_c]), (4, .pointer (some ⟨b2, 0, none⟩)), (2, .pointer (some ⟨b1, 0, none⟩))] w3 (by kernel_rfl) ?_
        refine J.callF 31 46 #[.agg #[.slice c.gX_a c.gX_n c.gX_c, .slice c.gY_a c.gY_n c.gY_c], .int .i64 x] hb46 (by kernel_rfl) (csegment_any c x _ (crvQ_sep hc S3) hv (by rw [show c.gX_l.length - 1 = ((c.gX_n : Int) - 1).toNat by omega]; omega)) ?_
        rintro _ w6 ⟨i, rfl, ⟨hsa, hsb, hsc⟩, T2⟩
        have S6 : Sep w [box b2 [.int .i64 0, .int .i64 0] 46, box b1 [.slice c.gX_a c.gX_n c.gX_c, .slice c.gY_a c.gY_n c.gY_c] 24] w6 := S3.trans T2
        have hA3 := axis_mono hv2 (show (i).toNat < (i + 1).toNat by omega) (by omega)
        have hA1 := hx2 (i).toNat (by omega)
        have hA2 := hx2 (i + 1).toNat (by omega)
        have hB1 := hv3 (i).toNat (by omega)
        have hB2 := hv3 (i + 1).toNat (by omega)
        have hpb := prod_bd (t := x - c.gX_l.getD (i).toNat 0) (k := c.gY_l.getD (i + 1).toNat 0 - c.gY_l.getD (i).toNat 0) (by omega) (by omega)
        have hbw := btw_bounds (x0 := c.gX_l.getD (i).toNat 0) (x1 := c.gX_l.getD (i + 1).toNat 0) (y0 := c.gY_l.getD (i).toNat 0) (y1 := c.gY_l.getD (i + 1).toNat 0) (x := x) (by omega) (by omega) (by omega)
        unfold btwF at hbw
        refine J.run 3 K21_15 [(5, .int .i64 i), (4, .pointer (some ⟨b2, 0, none⟩)), (2, .pointer (some ⟨b1, 0, none⟩))] w6 (by kernel_rfl) ?_
        obtain ⟨p3, hp3, hc3⟩ := q5.at 0 (i + 1).toNat (by omega)
        have hel3 := getD_Q q6 0 (n := (i + 1).toNat) (by have := q5.len_eq; omega)
        obtain ⟨p4, hp4, hc4⟩ := q5.at 0 (i).toNat (by omega)
        have hel4 := getD_Q q6 0 (n := (i).toNat) (by have := q5.len_eq; omega)
        obtain ⟨p5, hp5, hc5⟩ := q2.at 0 (i + 1).toNat (by omega)
        have hel5 := getD_Q q3 0 (n := (i + 1).toNat) (by have := q2.len_eq; omega)
        obtain ⟨p6, hp6, hc6⟩ := q2.at 0 (i).toNat (by omega)
        have hel6 := getD_Q q3 0 (n := (i).toNat) (by have := q2.len_eq; omega)
        refine J.drawTail S6 24 Tryd.mixed (by kernel_rfl) (by kernel_rfl) ?_
        intro w7 S7
        refine SL.ok (by decide) (OK.run 32 (.pointer (some ⟨b1, 1, none⟩)) (by kernel_rfl)) ?_
        refine SL.ok (by decide) (OK.ldBox S7 1 33 22 1 (.slice c.gY_a c.gY_n c.gY_c) (by kernel_rfl) rfl (by kernel_rfl)) ?_
        refine SL.ok (by decide) (OK.run 34 (.int .i64 i) (by kernel_rfl)) ?_
        refine SL.ok (by decide) (OK.run 35 (.int .i64 (IntKind.wrap .i64 (i + 1))) (by kernel_rfl)) ?_
        refine SL.head (.int .i64 (i + 1)) (congrArg (Value.int .i64) (IntWalk.i64_in _ (by omega))) ?_
        refine SL.ok (by decide) (OK.index 36 22 1 c.gY_a p3 c.gY_n (i + 1).toNat (i + 1) (p3.add (i + 1).toNat) (by kernel_rfl) (by kernel_rfl) hp3 (by omega) (by omega) (by rw [Nat.mul_one])) ?_
        refine SL.ok (by decide) (OK.ldCell 37 3 (p3.add (i + 1).toNat) (.int .i64 (c.gY_l.getD (i + 1).toNat 0)) (by kernel_rfl) (by kernel_rfl) (S7.cell hc3)) ?_
        refine SL.ok (by decide) (OK.run 38 (.pointer (some ⟨b1, 1, none⟩)) (by kernel_rfl)) ?_
        refine SL.ok (by decide) (OK.ldBox S7 1 39 22 1 (.slice c.gY_a c.gY_n c.gY_c) (by kernel_rfl) rfl (by kernel_rfl)) ?_
        refine SL.ok (by decide) (OK.run 40 (.int .i64 i) (by kernel_rfl)) ?_
        refine SL.ok (by decide) (OK.index 41 22 1 c.gY_a p4 c.gY_n (i).toNat i (p4.add (i).toNat) (by kernel_rfl) (by kernel_rfl) hp4 (by omega) (by omega) (by rw [Nat.mul_one])) ?_
        refine SL.ok (by decide) (OK.ldCell 42 3 (p4.add (i).toNat) (.int .i64 (c.gY_l.getD (i).toNat 0)) (by kernel_rfl) (by kernel_rfl) (S7.cell hc4)) ?_
        refine SL.ok (by decide) (OK.run 43 (.int .i64 (IntKind.wrap .i64 ((c.gY_l.getD (i + 1).toNat 0) - (c.gY_l.getD (i).toNat 0)))) (by kernel_rfl)) ?_
        refine SL.head (.int .i64 ((c.gY_l.getD (i + 1).toNat 0) - (c.gY_l.getD (i).toNat 0))) (congrArg (Value.int .i64) (IntWalk.i64_in _ (by omega))) ?_
        refine SL.ok (by decide) (OK.run 44 (.pointer (some ⟨b1, 0, none⟩)) (by kernel_rfl)) ?_
        refine SL.ok (by decide) (OK.ldBox S7 1 45 22 0 (.slice c.gX_a c.gX_n c.gX_c) (by kernel_rfl) rfl (by kernel_rfl)) ?_
        refine SL.ok (by decide) (OK.run 46 (.int .i64 i) (by kernel_rfl)) ?_
        refine SL.ok (by decide) (OK.run 47 (.int .i64 (IntKind.wrap .i64 (i + 1))) (by kernel_rfl)) ?_
        refine SL.head (.int .i64 (i + 1)) (congrArg (Value.int .i64) (IntWalk.i64_in _ (by omega))) ?_
        refine SL.ok (by decide) (OK.index 48 22 1 c.gX_a p5 c.gX_n (i + 1).toNat (i + 1) (p5.add (i + 1).toNat) (by kernel_rfl) (by kernel_rfl) hp5 (by omega) (by omega) (by rw [Nat.mul_one])) ?_
        refine SL.ok (by decide) (OK.ldCell 49 3 (p5.add (i + 1).toNat) (.int .i64 (c.gX_l.getD (i + 1).toNat 0)) (by kernel_rfl) (by kernel_rfl) (S7.cell hc5)) ?_
        refine SL.ok (by decide) (OK.run 50 (.pointer (some ⟨b1, 0, none⟩)) (by kernel_rfl)) ?_
        refine SL.ok (by decide) (OK.ldBox S7 1 51 22 0 (.slice c.gX_a c.gX_n c.gX_c) (by kernel_rfl) rfl (by kernel_rfl)) ?_
        refine SL.ok (by decide) (OK.run 52 (.int .i64 i) (by kernel_rfl)) ?_
        refine SL.ok (by decide) (OK.index 53 22 1 c.gX_a p6 c.gX_n (i).toNat i (p6.add (i).toNat) (by kernel_rfl) (by kernel_rfl) hp6 (by omega) (by omega) (by rw [Nat.mul_one])) ?_
        refine SL.ok (by decide) (OK.ldCell 54 3 (p6.add (i).toNat) (.int .i64 (c.gX_l.getD (i).toNat 0)) (by kernel_rfl) (by kernel_rfl) (S7.cell hc6)) ?_
        refine SL.ok (by decide) (OK.run 55 (.int .i64 (IntKind.wrap .i64 ((c.gX_l.getD (i + 1).toNat 0) - (c.gX_l.getD (i).toNat 0)))) (by kernel_rfl)) ?_
        refine SL.head (.int .i64 ((c.gX_l.getD (i + 1).toNat 0) - (c.gX_l.getD (i).toNat 0))) (congrArg (Value.int .i64) (IntWalk.i64_in _ (by omega))) ?_
        refine SL.done ?_
        refine TL.callF 56 47 #[.int .i64 ((c.gY_l.getD (i + 1).toNat 0) - (c.gY_l.getD (i).toNat 0)), .int .i64 ((c.gX_l.getD (i + 1).toNat 0) - (c.gX_l.getD (i).toNat 0))] hb47 (by kernel_rfl) (cratio_any ((c.gY_l.getD (i + 1).toNat 0) - (c.gY_l.getD (i).toNat 0)) ((c.gX_l.getD (i + 1).toNat 0) - (c.gX_l.getD (i).toNat 0)) _ (by omega) (by omega)) ?_
        rintro _ w8 ⟨rfl, T3⟩
        have S8 : Sep w [box b2 [.int .i64 0, .int .i64 0] 46, box b1 [.slice c.gX_a c.gX_n c.gX_c, .slice c.gY_a c.gY_n c.gY_c] 24] w8 := S7.trans T3
        clear T3 S7
        refine TL.stBox S8 0 46 0 (.agg #[.int .i64 (redF ((c.gY_l.getD (i + 1).toNat 0) - (c.gY_l.getD (i).toNat 0)) ((c.gX_l.getD (i + 1).toNat 0) - (c.gX_l.getD (i).toNat 0))), .int .i64 (redD ((c.gY_l.getD (i + 1).toNat 0) - (c.gY_l.getD (i).toNat 0)) ((c.gX_l.getD (i + 1).toNat 0) - (c.gX_l.getD (i).toNat 0)))]) [.int .i64 (redF ((c.gY_l.getD (i + 1).toNat 0) - (c.gY_l.getD (i).toNat 0)) ((c.gX_l.getD (i + 1).toNat 0) - (c.gX_l.getD (i).toNat 0))), .int .i64 (redD ((c.gY_l.getD (i + 1).toNat 0) - (c.gY_l.getD (i).toNat 0)) ((c.gX_l.getD (i + 1).toNat 0) - (c.gX_l.getD (i).toNat 0)))] [box b2 [.int .i64 (redF ((c.gY_l.getD (i + 1).toNat 0) - (c.gY_l.getD (i).toNat 0)) ((c.gX_l.getD (i + 1).toNat 0) - (c.gX_l.getD (i).toNat 0))), .int .i64 (redD ((c.gY_l.getD (i + 1).toNat 0) - (c.gY_l.getD (i).toNat 0)) ((c.gX_l.getD (i + 1).toNat 0) - (c.gX_l.getD (i).toNat 0)))] 46, box b1 [.slice c.gX_a c.gX_n c.gX_c, .slice c.gY_a c.gY_n c.gY_c] 24] (by kernel_rfl) rfl (by kernel_rfl) (by kernel_rfl) rfl ?_
        intro w9 S9
        refine TL.done (by kernel_rfl) ?_
        refine J.run 0 (rRest K21_15) [(4, .pointer (some ⟨b2, 0, none⟩))] w9 (by kernel_rfl) ?_
        refine J.ret Tryd.f21 [.agg #[.int .i64 (redF ((c.gY_l.getD (i + 1).toNat 0) - (c.gY_l.getD (i).toNat 0)) ((c.gX_l.getD (i + 1).toNat 0) - (c.gX_l.getD (i).toNat 0))), .int .i64 (redD ((c.gY_l.getD (i + 1).toNat 0) - (c.gY_l.getD (i).toNat 0)) ((c.gX_l.getD (i + 1).toNat 0) - (c.gX_l.getD (i).toNat 0)))]] Tryd.func21 ⟨⟨⟨b2, 0, none⟩, by kernel_rfl, ldV_run (S9.nth 0 rfl) (by kernel_rfl)⟩, trivial⟩ ?_
        refine hR _ _ ?_
        obtain ⟨e1, e2⟩ := slope_seg (c := c) (x := x) (i := i) hv (by omega) (by omega) (by omega)
        exact ⟨by rw [e1, e2]; rfl, S9.nil⟩
  · skip
    refine J.head (.bool true) (congrArg Value.bool (by rw [fk1]; rfl)) ?_
    refine J.run 4 K21_16 [(9, .agg #[.int .i64 0, .int .i64 0]), (4, .pointer (some ⟨b2, 0, none⟩))] w3 (by kernel_rfl) ?_
    refine J.stBox S3 0 46 0 (.agg #[.int .i64 0, .int .i64 0]) [.int .i64 0, .int .i64 0] [box b2 [.int .i64 0, .int .i64 0] 46, box b1 [.slice c.gX_a c.gX_n c.gX_c, .slice c.gY_a c.gY_n c.gY_c] 24] (by kernel_rfl) rfl (by kernel_rfl) (by kernel_rfl) rfl ?_
    intro w10 S10
    refine J.run 1 K21_17 [(4, .pointer (some ⟨b2, 0, none⟩))] w10 (by kernel_rfl) ?_
    refine J.ret Tryd.f21 [.agg #[.int .i64 0, .int .i64 0]] Tryd.func21 ⟨⟨⟨b2, 0, none⟩, by kernel_rfl, ldV_run (S10.nth 0 rfl) (by kernel_rfl)⟩, trivial⟩ ?_
    refine hR _ _ ?_
    obtain ⟨e1, e2⟩ := slope_no (c := c) (x := x) fk1
    exact ⟨by rw [e1, e2]; rfl, S10.nil⟩

end Go.Proofs.YtdilhoibcbihlaaDoor

