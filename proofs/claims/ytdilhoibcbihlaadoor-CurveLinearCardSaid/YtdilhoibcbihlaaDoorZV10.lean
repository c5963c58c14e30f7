/- Walks of functions of this seat, printed by a program over the engine. Conditions: as each theorem says. -/
import Derived.Test.YtdilhoibcbihlaaDoorZV9
namespace Go.Proofs.YtdilhoibcbihlaaDoor
open Go.Eng Go.RowKit
set_option linter.unusedSimpArgs false
set_option linter.unusedVariables false
theorem hb39 : HasBody Tryd.prog 39 := fun _ _ => by kernel_rfl
noncomputable def K39_0 : List Item := adv 2 [] (bodyOf Tryd.f39)
noncomputable def K39_1 : List Item := adv 2 [] (popK K39_0)
noncomputable def K39_2 : List Item := adv 1 [] K39_1
noncomputable def K39_3 : List Item := adv 2 [] (popK K39_2)
noncomputable def K39_4 : List Item := adv 1 [] K39_3
noncomputable def K39_5 : List Item := adv 1 [] (popK K39_4)
noncomputable def K39_6 : List Item := adv 1 [] (popK K39_5)
set_option maxRecDepth 20000 in
set_option maxHeartbeats 20000000 in
theorem cput_any (lo hi y : Int) (bo : Nat) (w0 : World) (L0 : List Eng.Claim) (w : World) (S0 : Sep w0 (box bo [.int .i64 lo, .int .i64 hi] 26 :: L0) w) : Ret Tryd.prog 39 #[.int .i64 y, .pointer (some ⟨bo, 0, none⟩)] w (fun v w' => v = .tuple #[] ∧ Sep w0 (box bo [.int .i64 (min lo y), .int .i64 (max hi y)] 26 :: L0) w') := by
  refine Ret.named fun R hR => ?_
  refine Ret.of_J (N := 13) [(0, .int .i64 y), (1, .pointer (some ⟨bo, 0, none⟩))] Tryd.func39 rfl rfl (Nat.le_of_ble_eq_true (by kernel_rfl)) (by kernel_rfl) ?_
  refine J.run 2 K39_0 [(3, .pointer (some ⟨bo, 0, none⟩)), (0, .int .i64 y), (1, .pointer (some ⟨bo, 0, none⟩))] w (by kernel_rfl) ?_
  refine J.ok (OK.ldBox S0 0 4 3 0 (.int .i64 lo) (by kernel_rfl) rfl (by kernel_rfl)) ?_
  refine J.run 2 K39_1 [(6, .int .i64 (if y < lo then y else lo)), (0, .int .i64 y), (1, .pointer (some ⟨bo, 0, none⟩))] w (by kernel_rfl) ?_
  refine J.head (.int .i64 (min lo y)) (congrArg (Value.int .i64) (by omega)) ?_
  refine J.run 1 K39_2 [(7, .pointer (some ⟨bo, 1, none⟩)), (6, .int .i64 (min lo y)), (0, .int .i64 y), (1, .pointer (some ⟨bo, 0, none⟩))] w (by kernel_rfl) ?_
  refine J.ok (OK.ldBox S0 0 8 3 1 (.int .i64 hi) (by kernel_rfl) rfl (by kernel_rfl)) ?_
  refine J.run 2 K39_3 [(10, .int .i64 (if y > hi then y else hi)), (6, .int .i64 (min lo y)), (1, .pointer (some ⟨bo, 0, none⟩))] w (by kernel_rfl) ?_
  refine J.head (.int .i64 (max hi y)) (congrArg (Value.int .i64) (by omega)) ?_
  refine J.run 1 K39_4 [(11, .pointer (some ⟨bo, 0, none⟩)), (10, .int .i64 (max hi y)), (6, .int .i64 (min lo y)), (1, .pointer (some ⟨bo, 0, none⟩))] w (by kernel_rfl) ?_
  refine J.stBox S0 0 3 0 (.int .i64 (min lo y)) [.int .i64 (min lo y), .int .i64 hi] (box bo [.int .i64 (min lo y), .int .i64 hi] 26 :: L0) (by kernel_rfl) rfl (by kernel_rfl) (by kernel_rfl) rfl ?_
  intro w1 S1
  refine J.run 1 K39_5 [(12, .pointer (some ⟨bo, 1, none⟩)), (10, .int .i64 (max hi y))] w1 (by kernel_rfl) ?_
  refine J.stBox S1 0 3 1 (.int .i64 (max hi y)) [.int .i64 (min lo y), .int .i64 (max hi y)] (box bo [.int .i64 (min lo y), .int .i64 (max hi y)] 26 :: L0) (by kernel_rfl) rfl (by kernel_rfl) (by kernel_rfl) rfl ?_
  intro w2 S2
  refine J.run 1 K39_6 [] w2 (by kernel_rfl) ?_
  refine J.done Tryd.f39 [] Tryd.func39 trivial ?_
  refine hR _ _ ?_
  exact ⟨rfl, S2⟩

theorem hb14 : HasBody Tryd.prog 14 := fun _ _ => by kernel_rfl
noncomputable def K14_0 : List Item := adv 2 [] (bodyOf Tryd.f14)
noncomputable def K14_1 : List Item := adv 5 [] (popK (popK (popK K14_0)))
noncomputable def K14_2 : List Item := adv 2 [] (popK (popK K14_1))
noncomputable def K14_3 : List Item := adv 1 [] K14_2
noncomputable def K14_4 : List Item := adv 1 [] (popK K14_3)
noncomputable def K14_5 : List Item := adv 3 [] (popK K14_4)
noncomputable def K14_6 : List Item := adv 4 [true] K14_5
noncomputable def K14_7 : List Item := adv 2 [] (popK K14_6)
noncomputable def K14_8 : List Item := adv 3 [false] K14_5
noncomputable def K14_9 : List Item := adv 8 [] (rRest K14_8)
noncomputable def K14_10 : List Item := adv 1 [] (popK K14_9)
noncomputable def K14_11 : List Item := adv 5 [] (popK (popK (popK K14_10)))
noncomputable def K14_12 : List Item := adv 5 [] (popK K14_11)
noncomputable def K14_13 : List Item := adv 5 [] K14_12
noncomputable def K14_14 : List Item := adv 7 [true] K14_13
noncomputable def K14_15 : List Item := adv 6 [] (popK (popK K14_14))
noncomputable def K14_16 : List Item := adv 3 [] (popK K14_15)
noncomputable def K14_17 : List Item := adv 2 [] K14_16
noncomputable def K14_18 : List Item := adv 3 [] (popK K14_17)
noncomputable def K14_19 : List Item := adv 4 [true] K14_18
noncomputable def K14_20 : List Item := adv 1 [] (popK K14_19)
noncomputable def K14_21 : List Item := adv 4 [] (popK (popK (popK K14_20)))
noncomputable def K14_22 : List Item := adv 5 [false] K14_18
noncomputable def K14_23 : List Item := adv 11 [false] K14_16
noncomputable def K14_24 : List Item := adv 4 [false] K14_13
noncomputable def K14_25 : List Item := adv 2 [] (popK (popK K14_24))
noncomputable def K14_26 : List Item := adv 11 [true] K14_2
noncomputable def K14_27 : List Item := adv 2 [] (popK K14_26)
set_option maxRecDepth 20000 in
set_option maxHeartbeats 20000000 in
theorem cover_any (c : Crv) (a b : Int) (w : World) (hc : crvQ w c) : Ret Tryd.prog 14 #[.agg #[.slice c.gX_a c.gX_n c.gX_c, .slice c.gY_a c.gY_n c.gY_c], .agg #[.int .i64 a, .int .i64 b]] w (fun v w' => v = .tuple #[.agg #[.int .i64 (covL c a b), .int .i64 (covH c a b)], .int .i64 (covE c a b)] ∧ Sep w [] w') := by
  have S0 := Sep.refl w
  refine Ret.named fun R hR => ?_
  refine Ret.of_J (N := 64) [(0, .agg #[.slice c.gX_a c.gX_n c.gX_c, .slice c.gY_a c.gY_n c.gY_c]), (1, .agg #[.int .i64 a, .int .i64 b])] Tryd.func14 rfl rfl (Nat.le_of_ble_eq_true (by kernel_rfl)) (by kernel_rfl) ?_
  obtain ⟨q1, q2, q3, q4, q5, q6, _⟩ := id hc
  have ql1 := q2.len_eq
  have ql2 := q5.len_eq
  refine J.run 2 K14_0 [(0, .agg #[.slice c.gX_a c.gX_n c.gX_c, .slice c.gY_a c.gY_n c.gY_c]), (1, .agg #[.int .i64 a, .int .i64 b])] w (by kernel_rfl) ?_
  refine J.new S0 2 [.slice c.gX_a c.gX_n c.gX_c, .slice c.gY_a c.gY_n c.gY_c] 24 (by kernel_rfl) ?_
  intro b1 w1 S1
  refine J.new S1 3 [.int .i64 a, .int .i64 b] 26 (by kernel_rfl) ?_
  intro b2 w2 S2
  refine J.new S2 4 [.int .i64 0, .int .i64 0] 26 (by kernel_rfl) ?_
  intro b3 w3 S3
  refine J.run 5 K14_1 [(4, .pointer (some ⟨b3, 0, none⟩)), (3, .pointer (some ⟨b2, 0, none⟩)), (2, .pointer (some ⟨b1, 0, none⟩))] w3 (by kernel_rfl) ?_
  refine J.ok (OK.ldBox S3 2 10 24 0 (.agg #[.slice c.gX_a c.gX_n c.gX_c, .slice c.gY_a c.gY_n c.gY_c]) (by kernel_rfl) rfl (by kernel_rfl)) ?_
  refine J.callF 11 16 #[.agg #[.slice c.gX_a c.gX_n c.gX_c, .slice c.gY_a c.gY_n c.gY_c]] hb16 (by kernel_rfl) (cvalid_any c _ (crvQ_sep hc S3)) ?_
  rintro _ w4 ⟨rfl, T1⟩
  have S4 : Sep w [box b3 [.int .i64 0, .int .i64 0] 26, box b2 [.int .i64 a, .int .i64 b] 26, box b1 [.slice c.gX_a c.gX_n c.gX_c, .slice c.gY_a c.gY_n c.gY_c] 24] w4 := S3.trans T1
  clear T1 S3
  refine J.run 2 K14_2 [(13, .bool (!(validV c))), (4, .pointer (some ⟨b3, 0, none⟩)), (3, .pointer (some ⟨b2, 0, none⟩)), (2, .pointer (some ⟨b1, 0, none⟩))] w4 (by kernel_rfl) ?_
  rcases Bool.eq_false_or_eq_true (validV c) with fk1 | fk1
  · skip
    refine J.head (.bool false) (congrArg Value.bool (by rw [fk1]; rfl)) ?_
    have hv := fk1
    obtain ⟨hv1, hv2, hv3⟩ := validV_facts hv
    obtain ⟨hx1, hx2, hx3⟩ := axis_facts hv2
    have hX : c.gX_l.length = c.gX_n := by omega
    have hY : c.gY_l.length = c.gX_n := by omega
    have hxm := axis_mono hv2 (show 0 < ((c.gX_n : Int) - 1).toNat by omega) (by omega)
    have hx0 := hx2 0 (by omega)
    have hxl := hx2 ((c.gX_n : Int) - 1).toNat (by omega)
    have hdv : dirV c = dirL c.gY_l := by unfold dirV; rw [hv]; rfl
    have hyn : ((c.gY_n : Int) - 1).toNat = ((c.gX_n : Int) - 1).toNat := by omega
    refine J.run 1 K14_3 [(14, .pointer (some ⟨b2, 0, none⟩)), (13, .bool false), (4, .pointer (some ⟨b3, 0, none⟩)), (3, .pointer (some ⟨b2, 0, none⟩)), (2, .pointer (some ⟨b1, 0, none⟩))] w4 (by kernel_rfl) ?_
    refine J.ok (OK.ldBox S4 1 15 3 0 (.int .i64 a) (by kernel_rfl) rfl (by kernel_rfl)) ?_
    refine J.run 1 K14_4 [(16, .pointer (some ⟨b2, 1, none⟩)), (15, .int .i64 a), (13, .bool false), (4, .pointer (some ⟨b3, 0, none⟩)), (3, .pointer (some ⟨b2, 0, none⟩)), (2, .pointer (some ⟨b1, 0, none⟩))] w4 (by kernel_rfl) ?_
    refine J.ok (OK.ldBox S4 1 17 3 1 (.int .i64 b) (by kernel_rfl) rfl (by kernel_rfl)) ?_
    refine J.run 3 K14_5 [(19, .bool (decide (a > b))), (4, .pointer (some ⟨b3, 0, none⟩)), (3, .pointer (some ⟨b2, 0, none⟩)), (2, .pointer (some ⟨b1, 0, none⟩))] w4 (by kernel_rfl) ?_
    by_cases fk2 : a > b
    · skip
      refine J.head (.bool true) (congrArg Value.bool (decide_eq_true fk2)) ?_
      refine J.run 4 K14_6 [(20, .agg #[.int .i64 0, .int .i64 0]), (4, .pointer (some ⟨b3, 0, none⟩))] w4 (by kernel_rfl) ?_
      refine J.stBox S4 0 26 0 (.agg #[.int .i64 0, .int .i64 0]) [.int .i64 0, .int .i64 0] [box b3 [.int .i64 0, .int .i64 0] 26, box b2 [.int .i64 a, .int .i64 b] 26, box b1 [.slice c.gX_a c.gX_n c.gX_c, .slice c.gY_a c.gY_n c.gY_c] 24] (by kernel_rfl) rfl (by kernel_rfl) (by kernel_rfl) rfl ?_
      intro w5 S5
      refine J.run 2 K14_7 [(5, .int .i64 1), (4, .pointer (some ⟨b3, 0, none⟩))] w5 (by kernel_rfl) ?_
      refine J.ret Tryd.f14 [.agg #[.int .i64 0, .int .i64 0], .int .i64 1] Tryd.func14 ⟨⟨⟨b3, 0, none⟩, by kernel_rfl, ldV_run (S5.nth 0 rfl) (by kernel_rfl)⟩, by kernel_rfl, trivial⟩ ?_
      refine hR _ _ ?_
      obtain ⟨e1, e2, e3⟩ := cov_no (c := c) (a := a) (b := b) (by first | exact .inl fk1 | exact .inr (by omega))
      exact ⟨by rw [tup_two, e1, e2, e3], S5.nil⟩
    · skip
      refine J.head (.bool false) (congrArg Value.bool (decide_eq_false fk2)) ?_
      refine J.run 3 K14_8 [(4, .pointer (some ⟨b3, 0, none⟩)), (3, .pointer (some ⟨b2, 0, none⟩)), (2, .pointer (some ⟨b1, 0, none⟩))] w4 (by kernel_rfl) ?_
      have W1 : ∀ (bd9 : Nat) (w6 : World), Sep w [box bd9 [.int .i64 (valueV c a), .int .i64 (valueV c a)] 26, box b3 [.int .i64 0, .int .i64 0] 26, box b2 [.int .i64 a, .int .i64 b] 26, box b1 [.slice c.gX_a c.gX_n c.gX_c, .slice c.gY_a c.gY_n c.gY_c] 24] w6 → WA Tryd.prog 14 64 R K14_8 (fun w_ => Sep w [box b3 [.int .i64 0, .int .i64 0] 26, box b2 [.int .i64 a, .int .i64 b] 26, box b1 [.slice c.gX_a c.gX_n c.gX_c, .slice c.gY_a c.gY_n c.gY_c] 24] w_) 0 #[true, true, true, true, true, true, true, true, true, true, true] [(2, .pointer (some ⟨b1, 0, none⟩)), (3, .pointer (some ⟨b2, 0, none⟩)), (4, .pointer (some ⟨b3, 0, none⟩)), (6, .pointer (some ⟨bd9, 0, none⟩))] w6 := by
        intro bd9 w6 S6
        refine WA.done (by kernel_rfl) ?_
        refine J.run 0 (rRest K14_8) [(2, .pointer (some ⟨b1, 0, none⟩)), (3, .pointer (some ⟨b2, 0, none⟩)), (4, .pointer (some ⟨b3, 0, none⟩)), (6, .pointer (some ⟨bd9, 0, none⟩))] w6 (by kernel_rfl) ?_
        refine J.run 8 K14_9 [(31, .func (.func 39) #[] #[.pointer (some ⟨bd9, 0, none⟩)]), (7, .func (.func 39) #[] #[.pointer (some ⟨bd9, 0, none⟩)]), (2, .pointer (some ⟨b1, 0, none⟩)), (3, .pointer (some ⟨b2, 0, none⟩)), (4, .pointer (some ⟨b3, 0, none⟩)), (6, .pointer (some ⟨bd9, 0, none⟩))] w6 (by kernel_rfl) ?_
        refine J.ok (OK.ldBox S6 3 32 24 0 (.agg #[.slice c.gX_a c.gX_n c.gX_c, .slice c.gY_a c.gY_n c.gY_c]) (by kernel_rfl) rfl (by kernel_rfl)) ?_
        refine J.run 1 K14_10 [(33, .pointer (some ⟨b2, 1, none⟩)), (32, .agg #[.slice c.gX_a c.gX_n c.gX_c, .slice c.gY_a c.gY_n c.gY_c]), (31, .func (.func 39) #[] #[.pointer (some ⟨bd9, 0, none⟩)]), (7, .func (.func 39) #[] #[.pointer (some ⟨bd9, 0, none⟩)]), (2, .pointer (some ⟨b1, 0, none⟩)), (3, .pointer (some ⟨b2, 0, none⟩)), (4, .pointer (some ⟨b3, 0, none⟩)), (6, .pointer (some ⟨bd9, 0, none⟩))] w6 (by kernel_rfl) ?_
        refine J.ok (OK.ldBox S6 2 34 3 1 (.int .i64 b) (by kernel_rfl) rfl (by kernel_rfl)) ?_
        refine J.callF 35 37 #[.agg #[.slice c.gX_a c.gX_n c.gX_c, .slice c.gY_a c.gY_n c.gY_c], .int .i64 b] hb37 (by kernel_rfl) (cvalue_any c b _ (crvQ_sep hc S6) hv) ?_
        rintro _ w7 ⟨rfl, T2⟩
        have S7 : Sep w [box bd9 [.int .i64 (valueV c a), .int .i64 (valueV c a)] 26, box b3 [.int .i64 0, .int .i64 0] 26, box b2 [.int .i64 a, .int .i64 b] 26, box b1 [.slice c.gX_a c.gX_n c.gX_c, .slice c.gY_a c.gY_n c.gY_c] 24] w7 := S6.trans T2
        clear T2 S6
        have S8 : Sep w [box bd9 [.int .i64 (valueV c a), .int .i64 (valueV c a)] 26, box b3 [.int .i64 0, .int .i64 0] 26, box b2 [.int .i64 a, .int .i64 b] 26, box b1 [.slice c.gX_a c.gX_n c.gX_c, .slice c.gY_a c.gY_n c.gY_c] 24] w7 := S7.front 0 rfl
        clear S7
        refine J.callF 36 39 #[.int .i64 (valueV c b), .pointer (some ⟨bd9, 0, none⟩)] hb39 (by kernel_rfl) (cput_any (valueV c a) (valueV c a) (valueV c b) bd9 _ _ _ S8) ?_
        rintro _ w8 ⟨rfl, S9⟩
        replace S9 : Sep w [box bd9 [.int .i64 (min (valueV c a) (valueV c b)), .int .i64 (max (valueV c a) (valueV c b))] 26, box b3 [.int .i64 0, .int .i64 0] 26, box b2 [.int .i64 a, .int .i64 b] 26, box b1 [.slice c.gX_a c.gX_n c.gX_c, .slice c.gY_a c.gY_n c.gY_c] 24] w8 := S9
        clear S8
        have S10 : Sep w [box bd9 [.int .i64 (min (valueV c a) (valueV c b)), .int .i64 (max (valueV c a) (valueV c b))] 26, box b3 [.int .i64 0, .int .i64 0] 26, box b2 [.int .i64 a, .int .i64 b] 26, box b1 [.slice c.gX_a c.gX_n c.gX_c, .slice c.gY_a c.gY_n c.gY_c] 24] w8 := S9.back 0
        clear S9
        refine J.run 5 K14_11 [(37, .pointer (some ⟨b1, 0, none⟩)), (7, .func (.func 39) #[] #[.pointer (some ⟨bd9, 0, none⟩)]), (2, .pointer (some ⟨b1, 0, none⟩)), (3, .pointer (some ⟨b2, 0, none⟩)), (4, .pointer (some ⟨b3, 0, none⟩)), (6, .pointer (some ⟨bd9, 0, none⟩))] w8 (by kernel_rfl) ?_
        refine J.ok (OK.ldBox S10 3 38 22 0 (.slice c.gX_a c.gX_n c.gX_c) (by kernel_rfl) rfl (by kernel_rfl)) ?_
        refine J.run 5 K14_12 [(40, .int .i64 0), (39, .int .i64 (c.gX_n : Int)), (38, .slice c.gX_a c.gX_n c.gX_c), (7, .func (.func 39) #[] #[.pointer (some ⟨bd9, 0, none⟩)]), (2, .pointer (some ⟨b1, 0, none⟩)), (3, .pointer (some ⟨b2, 0, none⟩)), (4, .pointer (some ⟨b3, 0, none⟩)), (6, .pointer (some ⟨bd9, 0, none⟩))] w8 (by kernel_rfl) ?_
        have L14_1 : ∀ (mm_ : Nat) (lo : Int) (hi : Int) (i : Int) (w9 : World), (0 ≤ i) → (i ≤ (c.gX_n : Int)) → (lo = minF (valueV c a) (ovT c a b i)) → (hi = maxF (valueV c a) (ovT c a b i)) → Sep w [box bd9 [.int .i64 lo, .int .i64 hi] 26, box b3 [.int .i64 0, .int .i64 0] 26, box b2 [.int .i64 a, .int .i64 b] 26, box b1 [.slice c.gX_a c.gX_n c.gX_c, .slice c.gY_a c.gY_n c.gY_c] 24] w9 → ((c.gX_n : Int) - i).toNat = mm_ → J Tryd.prog 14 64 R K14_12 [(40, .int .i64 i), (39, .int .i64 (c.gX_n : Int)), (38, .slice c.gX_a c.gX_n c.gX_c), (7, .func (.func 39) #[] #[.pointer (some ⟨bd9, 0, none⟩)]), (2, .pointer (some ⟨b1, 0, none⟩)), (3, .pointer (some ⟨b2, 0, none⟩)), (4, .pointer (some ⟨b3, 0, none⟩)), (6, .pointer (some ⟨bd9, 0, none⟩))] w9 := by
          intro mm1
          induction mm1 using Nat.strongRecOn with
          | _ mm1 ih1 =>
          intro lo hi i w9 h0 h1 hlo hhi S11 hm1
          refine J.run 5 K14_13 [(41, .bool (decide (i < (c.gX_n : Int)))), (40, .int .i64 i), (39, .int .i64 (c.gX_n : Int)), (38, .slice c.gX_a c.gX_n c.gX_c), (7, .func (.func 39) #[] #[.pointer (some ⟨bd9, 0, none⟩)]), (2, .pointer (some ⟨b1, 0, none⟩)), (3, .pointer (some ⟨b2, 0, none⟩)), (4, .pointer (some ⟨b3, 0, none⟩)), (6, .pointer (some ⟨bd9, 0, none⟩))] w9 (by kernel_rfl) ?_
          by_cases fk3 : i < (c.gX_n : Int)
          · skip
            refine J.head (.bool true) (congrArg Value.bool (decide_eq_true fk3)) ?_
            refine J.run 7 K14_14 [(42, .int .i64 i), (40, .int .i64 i), (39, .int .i64 (c.gX_n : Int)), (38, .slice c.gX_a c.gX_n c.gX_c), (7, .func (.func 39) #[] #[.pointer (some ⟨bd9, 0, none⟩)]), (2, .pointer (some ⟨b1, 0, none⟩)), (3, .pointer (some ⟨b2, 0, none⟩)), (4, .pointer (some ⟨b3, 0, none⟩)), (6, .pointer (some ⟨bd9, 0, none⟩))] w9 (by kernel_rfl) ?_
            obtain ⟨p1, hp1, hc1⟩ := q2.at 0 (i).toNat (by omega)
            have hel1 := getD_Q q3 0 (n := (i).toNat) (by have := q2.len_eq; omega)
            refine J.ok (OK.index 43 22 1 c.gX_a p1 c.gX_n (i).toNat i (p1.add (i).toNat) (by kernel_rfl) (by kernel_rfl) hp1 (by omega) (by omega) (by rw [Nat.mul_one])) ?_
            refine J.ok (OK.ldCell 44 3 (p1.add (i).toNat) (.int .i64 (c.gX_l.getD (i).toNat 0)) (by kernel_rfl) (by kernel_rfl) (S11.cell hc1)) ?_
            refine J.run 6 K14_15 [(45, .pointer (some ⟨b2, 0, none⟩)), (9, .int .i64 (c.gX_l.getD (i).toNat 0)), (8, .int .i64 i), (40, .int .i64 i), (39, .int .i64 (c.gX_n : Int)), (38, .slice c.gX_a c.gX_n c.gX_c), (7, .func (.func 39) #[] #[.pointer (some ⟨bd9, 0, none⟩)]), (2, .pointer (some ⟨b1, 0, none⟩)), (3, .pointer (some ⟨b2, 0, none⟩)), (4, .pointer (some ⟨b3, 0, none⟩)), (6, .pointer (some ⟨bd9, 0, none⟩))] w9 (by kernel_rfl) ?_
            refine J.ok (OK.ldBox S11 2 46 3 0 (.int .i64 a) (by kernel_rfl) rfl (by kernel_rfl)) ?_
            refine J.run 3 K14_16 [(49, .bool (decide (a < (c.gX_l.getD (i).toNat 0)))), (9, .int .i64 (c.gX_l.getD (i).toNat 0)), (8, .int .i64 i), (40, .int .i64 i), (39, .int .i64 (c.gX_n : Int)), (38, .slice c.gX_a c.gX_n c.gX_c), (7, .func (.func 39) #[] #[.pointer (some ⟨bd9, 0, none⟩)]), (2, .pointer (some ⟨b1, 0, none⟩)), (3, .pointer (some ⟨b2, 0, none⟩)), (4, .pointer (some ⟨b3, 0, none⟩)), (6, .pointer (some ⟨bd9, 0, none⟩))] w9 (by kernel_rfl) ?_
            by_cases fk4 : a < (c.gX_l.getD (i).toNat 0)
            · skip
              refine J.head (.bool true) (congrArg Value.bool (decide_eq_true fk4)) ?_
              refine J.run 2 K14_17 [(51, .pointer (some ⟨b2, 1, none⟩)), (50, .int .i64 (c.gX_l.getD (i).toNat 0)), (49, .bool true), (8, .int .i64 i), (40, .int .i64 i), (39, .int .i64 (c.gX_n : Int)), (38, .slice c.gX_a c.gX_n c.gX_c), (7, .func (.func 39) #[] #[.pointer (some ⟨bd9, 0, none⟩)]), (2, .pointer (some ⟨b1, 0, none⟩)), (3, .pointer (some ⟨b2, 0, none⟩)), (4, .pointer (some ⟨b3, 0, none⟩)), (6, .pointer (some ⟨bd9, 0, none⟩))] w9 (by kernel_rfl) ?_
              refine J.ok (OK.ldBox S11 2 52 3 1 (.int .i64 b) (by kernel_rfl) rfl (by kernel_rfl)) ?_
              refine J.run 3 K14_18 [(54, .bool (decide ((c.gX_l.getD (i).toNat 0) < b))), (8, .int .i64 i), (40, .int .i64 i), (39, .int .i64 (c.gX_n : Int)), (38, .slice c.gX_a c.gX_n c.gX_c), (7, .func (.func 39) #[] #[.pointer (some ⟨bd9, 0, none⟩)]), (2, .pointer (some ⟨b1, 0, none⟩)), (3, .pointer (some ⟨b2, 0, none⟩)), (4, .pointer (some ⟨b3, 0, none⟩)), (6, .pointer (some ⟨bd9, 0, none⟩))] w9 (by kernel_rfl) ?_
              by_cases fk5 : (c.gX_l.getD (i).toNat 0) < b
              · skip
                refine J.head (.bool true) (congrArg Value.bool (decide_eq_true fk5)) ?_
                refine J.run 4 K14_19 [(56, .pointer (some ⟨b1, 1, none⟩)), (55, .func (.func 39) #[] #[.pointer (some ⟨bd9, 0, none⟩)]), (8, .int .i64 i), (40, .int .i64 i), (39, .int .i64 (c.gX_n : Int)), (38, .slice c.gX_a c.gX_n c.gX_c), (7, .func (.func 39) #[] #[.pointer (some ⟨bd9, 0, none⟩)]), (2, .pointer (some ⟨b1, 0, none⟩)), (3, .pointer (some ⟨b2, 0, none⟩)), (4, .pointer (some ⟨b3, 0, none⟩)), (6, .pointer (some ⟨bd9, 0, none⟩))] w9 (by kernel_rfl) ?_
                refine J.ok (OK.ldBox S11 3 57 22 1 (.slice c.gY_a c.gY_n c.gY_c) (by kernel_rfl) rfl (by kernel_rfl)) ?_
                refine J.run 1 K14_20 [(58, .int .i64 i), (57, .slice c.gY_a c.gY_n c.gY_c), (55, .func (.func 39) #[] #[.pointer (some ⟨bd9, 0, none⟩)]), (40, .int .i64 i), (39, .int .i64 (c.gX_n : Int)), (38, .slice c.gX_a c.gX_n c.gX_c), (7, .func (.func 39) #[] #[.pointer (some ⟨bd9, 0, none⟩)]), (2, .pointer (some ⟨b1, 0, none⟩)), (3, .pointer (some ⟨b2, 0, none⟩)), (4, .pointer (some ⟨b3, 0, none⟩)), (6, .pointer (some ⟨bd9, 0, none⟩))] w9 (by kernel_rfl) ?_
                obtain ⟨p2, hp2, hc2⟩ := q5.at 0 (i).toNat (by omega)
                have hel2 := getD_Q q6 0 (n := (i).toNat) (by have := q5.len_eq; omega)
                refine J.ok (OK.index 59 22 1 c.gY_a p2 c.gY_n (i).toNat i (p2.add (i).toNat) (by kernel_rfl) (by kernel_rfl) hp2 (by omega) (by omega) (by rw [Nat.mul_one])) ?_
                refine J.ok (OK.ldCell 60 3 (p2.add (i).toNat) (.int .i64 (c.gY_l.getD (i).toNat 0)) (by kernel_rfl) (by kernel_rfl) (S11.cell hc2)) ?_
                have S12 : Sep w [box bd9 [.int .i64 lo, .int .i64 hi] 26, box b3 [.int .i64 0, .int .i64 0] 26, box b2 [.int .i64 a, .int .i64 b] 26, box b1 [.slice c.gX_a c.gX_n c.gX_c, .slice c.gY_a c.gY_n c.gY_c] 24] w9 := S11.front 0 rfl
                clear S11
                refine J.callF 61 39 #[.int .i64 (c.gY_l.getD (i).toNat 0), .pointer (some ⟨bd9, 0, none⟩)] hb39 (by kernel_rfl) (cput_any lo hi (c.gY_l.getD (i).toNat 0) bd9 _ _ _ S12) ?_
                rintro _ w10 ⟨rfl, S13⟩
                replace S13 : Sep w [box bd9 [.int .i64 (min lo (c.gY_l.getD (i).toNat 0)), .int .i64 (max hi (c.gY_l.getD (i).toNat 0))] 26, box b3 [.int .i64 0, .int .i64 0] 26, box b2 [.int .i64 a, .int .i64 b] 26, box b1 [.slice c.gX_a c.gX_n c.gX_c, .slice c.gY_a c.gY_n c.gY_c] 24] w10 := S13
                clear S12
                have S14 : Sep w [box bd9 [.int .i64 (min lo (c.gY_l.getD (i).toNat 0)), .int .i64 (max hi (c.gY_l.getD (i).toNat 0))] 26, box b3 [.int .i64 0, .int .i64 0] 26, box b2 [.int .i64 a, .int .i64 b] 26, box b1 [.slice c.gX_a c.gX_n c.gX_c, .slice c.gY_a c.gY_n c.gY_c] 24] w10 := S13.back 0
                clear S13
                refine J.run 4 K14_21 [(62, .int .i64 (IntKind.wrap .i64 (i + 1))), (39, .int .i64 (c.gX_n : Int)), (38, .slice c.gX_a c.gX_n c.gX_c), (7, .func (.func 39) #[] #[.pointer (some ⟨bd9, 0, none⟩)]), (2, .pointer (some ⟨b1, 0, none⟩)), (3, .pointer (some ⟨b2, 0, none⟩)), (4, .pointer (some ⟨b3, 0, none⟩)), (6, .pointer (some ⟨bd9, 0, none⟩))] w10 (by kernel_rfl) ?_
                refine J.head (.int .i64 (i + 1)) (congrArg (Value.int .i64) (IntWalk.i64_in _ (by omega))) ?_
                refine J.run 3 K14_12 [(40, .int .i64 (i + 1)), (39, .int .i64 (c.gX_n : Int)), (38, .slice c.gX_a c.gX_n c.gX_c), (7, .func (.func 39) #[] #[.pointer (some ⟨bd9, 0, none⟩)]), (2, .pointer (some ⟨b1, 0, none⟩)), (3, .pointer (some ⟨b2, 0, none⟩)), (4, .pointer (some ⟨b3, 0, none⟩)), (6, .pointer (some ⟨bd9, 0, none⟩))] w10 (by kernel_rfl) ?_
                refine J.run 0 K14_12 [(40, .int .i64 (i + 1)), (39, .int .i64 (c.gX_n : Int)), (38, .slice c.gX_a c.gX_n c.gX_c), (7, .func (.func 39) #[] #[.pointer (some ⟨bd9, 0, none⟩)]), (2, .pointer (some ⟨b1, 0, none⟩)), (3, .pointer (some ⟨b2, 0, none⟩)), (4, .pointer (some ⟨b3, 0, none⟩)), (6, .pointer (some ⟨bd9, 0, none⟩))] w10 (by kernel_rfl) ?_
                exact ih1 _ (show ((c.gX_n : Int) - (i + 1)).toNat < mm1 from by omega) (min lo (c.gY_l.getD (i).toNat 0)) (max hi (c.gY_l.getD (i).toNat 0)) (i + 1) w10 (by omega) (by omega) (by rw [hlo, ovT_yes h0 (by omega) (by omega), minF_snoc]) (by rw [hhi, ovT_yes h0 (by omega) (by omega), maxF_snoc]) S14 rfl
              · skip
                refine J.head (.bool false) (congrArg Value.bool (decide_eq_false fk5)) ?_
                refine J.run 5 K14_22 [(62, .int .i64 (IntKind.wrap .i64 (i + 1))), (39, .int .i64 (c.gX_n : Int)), (38, .slice c.gX_a c.gX_n c.gX_c), (7, .func (.func 39) #[] #[.pointer (some ⟨bd9, 0, none⟩)]), (2, .pointer (some ⟨b1, 0, none⟩)), (3, .pointer (some ⟨b2, 0, none⟩)), (4, .pointer (some ⟨b3, 0, none⟩)), (6, .pointer (some ⟨bd9, 0, none⟩))] w9 (by kernel_rfl) ?_
                refine J.head (.int .i64 (i + 1)) (congrArg (Value.int .i64) (IntWalk.i64_in _ (by omega))) ?_
                refine J.run 3 K14_12 [(40, .int .i64 (i + 1)), (39, .int .i64 (c.gX_n : Int)), (38, .slice c.gX_a c.gX_n c.gX_c), (7, .func (.func 39) #[] #[.pointer (some ⟨bd9, 0, none⟩)]), (2, .pointer (some ⟨b1, 0, none⟩)), (3, .pointer (some ⟨b2, 0, none⟩)), (4, .pointer (some ⟨b3, 0, none⟩)), (6, .pointer (some ⟨bd9, 0, none⟩))] w9 (by kernel_rfl) ?_
                refine J.run 0 K14_12 [(40, .int .i64 (i + 1)), (39, .int .i64 (c.gX_n : Int)), (38, .slice c.gX_a c.gX_n c.gX_c), (7, .func (.func 39) #[] #[.pointer (some ⟨bd9, 0, none⟩)]), (2, .pointer (some ⟨b1, 0, none⟩)), (3, .pointer (some ⟨b2, 0, none⟩)), (4, .pointer (some ⟨b3, 0, none⟩)), (6, .pointer (some ⟨bd9, 0, none⟩))] w9 (by kernel_rfl) ?_
                exact ih1 _ (show ((c.gX_n : Int) - (i + 1)).toNat < mm1 from by omega) lo hi (i + 1) w9 (by omega) (by omega) (by rw [hlo, ovT_no h0 (by omega)]) (by rw [hhi, ovT_no h0 (by omega)]) S11 rfl
            · skip
              refine J.head (.bool false) (congrArg Value.bool (decide_eq_false fk4)) ?_
              refine J.run 11 K14_23 [(62, .int .i64 (IntKind.wrap .i64 (i + 1))), (39, .int .i64 (c.gX_n : Int)), (38, .slice c.gX_a c.gX_n c.gX_c), (7, .func (.func 39) #[] #[.pointer (some ⟨bd9, 0, none⟩)]), (2, .pointer (some ⟨b1, 0, none⟩)), (3, .pointer (some ⟨b2, 0, none⟩)), (4, .pointer (some ⟨b3, 0, none⟩)), (6, .pointer (some ⟨bd9, 0, none⟩))] w9 (by kernel_rfl) ?_
              refine J.head (.int .i64 (i + 1)) (congrArg (Value.int .i64) (IntWalk.i64_in _ (by omega))) ?_
              refine J.run 3 K14_12 [(40, .int .i64 (i + 1)), (39, .int .i64 (c.gX_n : Int)), (38, .slice c.gX_a c.gX_n c.gX_c), (7, .func (.func 39) #[] #[.pointer (some ⟨bd9, 0, none⟩)]), (2, .pointer (some ⟨b1, 0, none⟩)), (3, .pointer (some ⟨b2, 0, none⟩)), (4, .pointer (some ⟨b3, 0, none⟩)), (6, .pointer (some ⟨bd9, 0, none⟩))] w9 (by kernel_rfl) ?_
              refine J.run 0 K14_12 [(40, .int .i64 (i + 1)), (39, .int .i64 (c.gX_n : Int)), (38, .slice c.gX_a c.gX_n c.gX_c), (7, .func (.func 39) #[] #[.pointer (some ⟨bd9, 0, none⟩)]), (2, .pointer (some ⟨b1, 0, none⟩)), (3, .pointer (some ⟨b2, 0, none⟩)), (4, .pointer (some ⟨b3, 0, none⟩)), (6, .pointer (some ⟨bd9, 0, none⟩))] w9 (by kernel_rfl) ?_
              exact ih1 _ (show ((c.gX_n : Int) - (i + 1)).toNat < mm1 from by omega) lo hi (i + 1) w9 (by omega) (by omega) (by rw [hlo, ovT_no h0 (by omega)]) (by rw [hhi, ovT_no h0 (by omega)]) S11 rfl
          · skip
            refine J.head (.bool false) (congrArg Value.bool (decide_eq_false fk3)) ?_
            refine J.run 4 K14_24 [(4, .pointer (some ⟨b3, 0, none⟩)), (6, .pointer (some ⟨bd9, 0, none⟩))] w9 (by kernel_rfl) ?_
            refine J.ok (OK.ldBox S11 0 63 26 0 (.agg #[.int .i64 lo, .int .i64 hi]) (by kernel_rfl) rfl (by kernel_rfl)) ?_
            refine J.stBox S11 1 26 0 (.agg #[.int .i64 lo, .int .i64 hi]) [.int .i64 lo, .int .i64 hi] [box bd9 [.int .i64 lo, .int .i64 hi] 26, box b3 [.int .i64 lo, .int .i64 hi] 26, box b2 [.int .i64 a, .int .i64 b] 26, box b1 [.slice c.gX_a c.gX_n c.gX_c, .slice c.gY_a c.gY_n c.gY_c] 24] (by kernel_rfl) rfl (by kernel_rfl) (by kernel_rfl) rfl ?_
            intro w11 S15
            refine J.run 2 K14_25 [(5, .int .i64 0), (4, .pointer (some ⟨b3, 0, none⟩))] w11 (by kernel_rfl) ?_
            refine J.ret Tryd.f14 [.agg #[.int .i64 lo, .int .i64 hi], .int .i64 0] Tryd.func14 ⟨⟨⟨b3, 0, none⟩, by kernel_rfl, ldV_run (S15.nth 1 rfl) (by kernel_rfl)⟩, by kernel_rfl, trivial⟩ ?_
            refine hR _ _ ?_
            obtain ⟨e1, e2, e3⟩ := cov_yes (c := c) (a := a) (b := b) hv (by omega)
            have q1 : lo = ovLo c a b := by rw [hlo, show i = (c.gX_n : Int) by omega]; rfl
            have q2 : hi = ovHi c a b := by rw [hhi, show i = (c.gX_n : Int) by omega]; rfl
            exact ⟨by rw [tup_two, e1, e2, e3, q1, q2], S15.nil⟩
        exact L14_1 _ (min (valueV c a) (valueV c b)) (max (valueV c a) (valueV c b)) 0 w8 (by omega) (by omega) (by rw [ovT_zero]; rfl) (by rw [ovT_zero]; rfl) S10 rfl
      have W2 : ∀ (bd9 : Nat) (w12 : World), Sep w [box bd9 [.int .i64 0, .int .i64 0] 26, box b3 [.int .i64 0, .int .i64 0] 26, box b2 [.int .i64 a, .int .i64 b] 26, box b1 [.slice c.gX_a c.gX_n c.gX_c, .slice c.gY_a c.gY_n c.gY_c] 24] w12 → WA Tryd.prog 14 64 R K14_8 (fun w_ => Sep w [box b3 [.int .i64 0, .int .i64 0] 26, box b2 [.int .i64 a, .int .i64 b] 26, box b1 [.slice c.gX_a c.gX_n c.gX_c, .slice c.gY_a c.gY_n c.gY_c] 24] w_) 1 #[true, true, true, true, true, true, true, true, true, true, false] [(2, .pointer (some ⟨b1, 0, none⟩)), (3, .pointer (some ⟨b2, 0, none⟩)), (4, .pointer (some ⟨b3, 0, none⟩)), (6, .pointer (some ⟨bd9, 0, none⟩)), (29, .agg #[.int .i64 (valueV c a), .int .i64 (valueV c a)])] w12 := by
        intro bd9 w12 S16
        refine WA.all [10] (by kernel_rfl) rfl ⟨?_, trivial⟩
        · skip
          refine WO.set #[true, true, true, true, true, true, true, true, true, true, true] (by kernel_rfl) ?_
          refine WO.stBox S16 0 26 0 (.agg #[.int .i64 (valueV c a), .int .i64 (valueV c a)]) [.int .i64 (valueV c a), .int .i64 (valueV c a)] [box bd9 [.int .i64 (valueV c a), .int .i64 (valueV c a)] 26, box b3 [.int .i64 0, .int .i64 0] 26, box b2 [.int .i64 a, .int .i64 b] 26, box b1 [.slice c.gX_a c.gX_n c.gX_c, .slice c.gY_a c.gY_n c.gY_c] 24] (by kernel_rfl) rfl (by kernel_rfl) (by kernel_rfl) rfl ?_
          intro w13 S17
          refine WB.mk (S17.sub (.cons _ (.cons_cons _ (.cons_cons _ (.cons_cons _ (.slnil)))))) ?_
          refine WA.weaken (env' := [(2, .pointer (some ⟨b1, 0, none⟩)), (3, .pointer (some ⟨b2, 0, none⟩)), (4, .pointer (some ⟨b3, 0, none⟩)), (6, .pointer (some ⟨bd9, 0, none⟩))]) (by kernel_rfl) ?_
          exact W1 bd9 w13 S17
      have W3 : ∀ (w14 : World), Sep w [box b3 [.int .i64 0, .int .i64 0] 26, box b2 [.int .i64 a, .int .i64 b] 26, box b1 [.slice c.gX_a c.gX_n c.gX_c, .slice c.gY_a c.gY_n c.gY_c] 24] w14 → WA Tryd.prog 14 64 R K14_8 (fun w_ => Sep w [box b3 [.int .i64 0, .int .i64 0] 26, box b2 [.int .i64 a, .int .i64 b] 26, box b1 [.slice c.gX_a c.gX_n c.gX_c, .slice c.gY_a c.gY_n c.gY_c] 24] w_) 2 #[true, true, true, true, true, true, true, true, true, false, false] [(2, .pointer (some ⟨b1, 0, none⟩)), (3, .pointer (some ⟨b2, 0, none⟩)), (4, .pointer (some ⟨b3, 0, none⟩)), (29, .agg #[.int .i64 (valueV c a), .int .i64 (valueV c a)])] w14 := by
        intro w14 S18
        refine WA.all [9] (by kernel_rfl) rfl ⟨?_, trivial⟩
        · skip
          refine WO.set #[true, true, true, true, true, true, true, true, true, true, false] (by kernel_rfl) ?_
          refine WO.new S18 6 [.int .i64 0, .int .i64 0] 26 (by kernel_rfl) ?_
          intro bd9 w15 S19
          refine WB.mk (S19.sub (.cons _ (.cons_cons _ (.cons_cons _ (.cons_cons _ (.slnil)))))) ?_
          refine WA.weaken (env' := [(2, .pointer (some ⟨b1, 0, none⟩)), (3, .pointer (some ⟨b2, 0, none⟩)), (4, .pointer (some ⟨b3, 0, none⟩)), (6, .pointer (some ⟨bd9, 0, none⟩)), (29, .agg #[.int .i64 (valueV c a), .int .i64 (valueV c a)])]) (by kernel_rfl) ?_
          exact W2 bd9 w15 S19
      have W4 : ∀ (bd9 : Nat) (w16 : World), Sep w [box bd9 [.int .i64 0, .int .i64 0] 26, box b3 [.int .i64 0, .int .i64 0] 26, box b2 [.int .i64 a, .int .i64 b] 26, box b1 [.slice c.gX_a c.gX_n c.gX_c, .slice c.gY_a c.gY_n c.gY_c] 24] w16 → WA Tryd.prog 14 64 R K14_8 (fun w_ => Sep w [box b3 [.int .i64 0, .int .i64 0] 26, box b2 [.int .i64 a, .int .i64 b] 26, box b1 [.slice c.gX_a c.gX_n c.gX_c, .slice c.gY_a c.gY_n c.gY_c] 24] w_) 3 #[true, true, true, true, true, true, true, false, false, true, false] [(2, .pointer (some ⟨b1, 0, none⟩)), (3, .pointer (some ⟨b2, 0, none⟩)), (4, .pointer (some ⟨b3, 0, none⟩)), (6, .pointer (some ⟨bd9, 0, none⟩)), (24, .int .i64 (valueV c a)), (25, .agg #[.slice c.gX_a c.gX_n c.gX_c, .slice c.gY_a c.gY_n c.gY_c]), (27, .int .i64 a)] w16 := by
        intro bd9 w16 S20
        refine WA.all [7] (by kernel_rfl) rfl ⟨?_, trivial⟩
        · skip
          refine WO.set #[true, true, true, true, true, true, true, true, false, true, false] (by kernel_rfl) ?_
          refine WO.callF 28 37 #[.agg #[.slice c.gX_a c.gX_n c.gX_c, .slice c.gY_a c.gY_n c.gY_c], .int .i64 a] hb37 (by kernel_rfl) (cvalue_any c a _ (crvQ_sep hc S20) hv) ?_
          rintro _ w17 ⟨rfl, T3⟩
          have S21 : Sep w [box bd9 [.int .i64 0, .int .i64 0] 26, box b3 [.int .i64 0, .int .i64 0] 26, box b2 [.int .i64 a, .int .i64 b] 26, box b1 [.slice c.gX_a c.gX_n c.gX_c, .slice c.gY_a c.gY_n c.gY_c] 24] w17 := S20.trans T3
          clear T3 S20
          refine WB.mk (S21.sub (.cons _ (.cons_cons _ (.cons_cons _ (.cons_cons _ (.slnil)))))) ?_
          refine WA.take 8 29 (.agg #[.int .i64 (valueV c a), .int .i64 (valueV c a)]) #[true, true, true, true, true, true, true, true, true, true, false] (by kernel_rfl) (by kernel_rfl) (by kernel_rfl) (fun _ _ => by kernel_rfl) (by kernel_rfl) ?_
          refine WA.weaken (env' := [(2, .pointer (some ⟨b1, 0, none⟩)), (3, .pointer (some ⟨b2, 0, none⟩)), (4, .pointer (some ⟨b3, 0, none⟩)), (6, .pointer (some ⟨bd9, 0, none⟩)), (29, .agg #[.int .i64 (valueV c a), .int .i64 (valueV c a)])]) (by kernel_rfl) ?_
          exact W2 bd9 w17 S21
      have W5 : ∀ (w18 : World), Sep w [box b3 [.int .i64 0, .int .i64 0] 26, box b2 [.int .i64 a, .int .i64 b] 26, box b1 [.slice c.gX_a c.gX_n c.gX_c, .slice c.gY_a c.gY_n c.gY_c] 24] w18 → WA Tryd.prog 14 64 R K14_8 (fun w_ => Sep w [box b3 [.int .i64 0, .int .i64 0] 26, box b2 [.int .i64 a, .int .i64 b] 26, box b1 [.slice c.gX_a c.gX_n c.gX_c, .slice c.gY_a c.gY_n c.gY_c] 24] w_) 4 #[true, true, true, true, true, true, true, false, false, false, false] [(2, .pointer (some ⟨b1, 0, none⟩)), (3, .pointer (some ⟨b2, 0, none⟩)), (4, .pointer (some ⟨b3, 0, none⟩)), (24, .int .i64 (valueV c a)), (25, .agg #[.slice c.gX_a c.gX_n c.gX_c, .slice c.gY_a c.gY_n c.gY_c]), (27, .int .i64 a)] w18 := by
        intro w18 S22
        refine WA.all [7, 9] (by kernel_rfl) rfl ⟨?_, ?_, trivial⟩
        · skip
          refine WO.set #[true, true, true, true, true, true, true, true, false, false, false] (by kernel_rfl) ?_
          refine WO.callF 28 37 #[.agg #[.slice c.gX_a c.gX_n c.gX_c, .slice c.gY_a c.gY_n c.gY_c], .int .i64 a] hb37 (by kernel_rfl) (cvalue_any c a _ (crvQ_sep hc S22) hv) ?_
          rintro _ w19 ⟨rfl, T4⟩
          have S23 : Sep w [box b3 [.int .i64 0, .int .i64 0] 26, box b2 [.int .i64 a, .int .i64 b] 26, box b1 [.slice c.gX_a c.gX_n c.gX_c, .slice c.gY_a c.gY_n c.gY_c] 24] w19 := S22.trans T4
          clear T4 S22
          refine WB.mk (S23.sub (.cons_cons _ (.cons_cons _ (.cons_cons _ (.slnil))))) ?_
          refine WA.take 8 29 (.agg #[.int .i64 (valueV c a), .int .i64 (valueV c a)]) #[true, true, true, true, true, true, true, true, true, false, false] (by kernel_rfl) (by kernel_rfl) (by kernel_rfl) (fun _ _ => by kernel_rfl) (by kernel_rfl) ?_
          refine WA.weaken (env' := [(2, .pointer (some ⟨b1, 0, none⟩)), (3, .pointer (some ⟨b2, 0, none⟩)), (4, .pointer (some ⟨b3, 0, none⟩)), (29, .agg #[.int .i64 (valueV c a), .int .i64 (valueV c a)])]) (by kernel_rfl) ?_
          exact W3 w19 S23
        · skip
          refine WO.set #[true, true, true, true, true, true, true, false, false, true, false] (by kernel_rfl) ?_
          refine WO.new S22 6 [.int .i64 0, .int .i64 0] 26 (by kernel_rfl) ?_
          intro bd9 w20 S24
          refine WB.mk (S24.sub (.cons _ (.cons_cons _ (.cons_cons _ (.cons_cons _ (.slnil)))))) ?_
          refine WA.weaken (env' := [(2, .pointer (some ⟨b1, 0, none⟩)), (3, .pointer (some ⟨b2, 0, none⟩)), (4, .pointer (some ⟨b3, 0, none⟩)), (6, .pointer (some ⟨bd9, 0, none⟩)), (24, .int .i64 (valueV c a)), (25, .agg #[.slice c.gX_a c.gX_n c.gX_c, .slice c.gY_a c.gY_n c.gY_c]), (27, .int .i64 a)]) (by kernel_rfl) ?_
          exact W4 bd9 w20 S24
      have W6 : ∀ (bd9 : Nat) (w21 : World), Sep w [box bd9 [.int .i64 0, .int .i64 0] 26, box b3 [.int .i64 0, .int .i64 0] 26, box b2 [.int .i64 a, .int .i64 b] 26, box b1 [.slice c.gX_a c.gX_n c.gX_c, .slice c.gY_a c.gY_n c.gY_c] 24] w21 → WA Tryd.prog 14 64 R K14_8 (fun w_ => Sep w [box b3 [.int .i64 0, .int .i64 0] 26, box b2 [.int .i64 a, .int .i64 b] 26, box b1 [.slice c.gX_a c.gX_n c.gX_c, .slice c.gY_a c.gY_n c.gY_c] 24] w_) 4 #[true, true, true, false, true, true, true, false, false, true, false] [(2, .pointer (some ⟨b1, 0, none⟩)), (3, .pointer (some ⟨b2, 0, none⟩)), (4, .pointer (some ⟨b3, 0, none⟩)), (6, .pointer (some ⟨bd9, 0, none⟩)), (21, .agg #[.slice c.gX_a c.gX_n c.gX_c, .slice c.gY_a c.gY_n c.gY_c]), (23, .int .i64 a), (25, .agg #[.slice c.gX_a c.gX_n c.gX_c, .slice c.gY_a c.gY_n c.gY_c]), (27, .int .i64 a)] w21 := by
        intro bd9 w21 S25
        refine WA.all [3] (by kernel_rfl) rfl ⟨?_, trivial⟩
        · skip
          refine WO.set #[true, true, true, true, true, true, true, false, false, true, false] (by kernel_rfl) ?_
          refine WO.callF 24 37 #[.agg #[.slice c.gX_a c.gX_n c.gX_c, .slice c.gY_a c.gY_n c.gY_c], .int .i64 a] hb37 (by kernel_rfl) (cvalue_any c a _ (crvQ_sep hc S25) hv) ?_
          rintro _ w22 ⟨rfl, T5⟩
          have S26 : Sep w [box bd9 [.int .i64 0, .int .i64 0] 26, box b3 [.int .i64 0, .int .i64 0] 26, box b2 [.int .i64 a, .int .i64 b] 26, box b1 [.slice c.gX_a c.gX_n c.gX_c, .slice c.gY_a c.gY_n c.gY_c] 24] w22 := S25.trans T5
          clear T5 S25
          refine WB.mk (S26.sub (.cons _ (.cons_cons _ (.cons_cons _ (.cons_cons _ (.slnil)))))) ?_
          refine WA.weaken (env' := [(2, .pointer (some ⟨b1, 0, none⟩)), (3, .pointer (some ⟨b2, 0, none⟩)), (4, .pointer (some ⟨b3, 0, none⟩)), (6, .pointer (some ⟨bd9, 0, none⟩)), (24, .int .i64 (valueV c a)), (25, .agg #[.slice c.gX_a c.gX_n c.gX_c, .slice c.gY_a c.gY_n c.gY_c]), (27, .int .i64 a)]) (by kernel_rfl) ?_
          exact W4 bd9 w22 S26
      have W7 : ∀ (w23 : World), Sep w [box b3 [.int .i64 0, .int .i64 0] 26, box b2 [.int .i64 a, .int .i64 b] 26, box b1 [.slice c.gX_a c.gX_n c.gX_c, .slice c.gY_a c.gY_n c.gY_c] 24] w23 → WA Tryd.prog 14 64 R K14_8 (fun w_ => Sep w [box b3 [.int .i64 0, .int .i64 0] 26, box b2 [.int .i64 a, .int .i64 b] 26, box b1 [.slice c.gX_a c.gX_n c.gX_c, .slice c.gY_a c.gY_n c.gY_c] 24] w_) 5 #[true, true, true, false, true, true, true, false, false, false, false] [(2, .pointer (some ⟨b1, 0, none⟩)), (3, .pointer (some ⟨b2, 0, none⟩)), (4, .pointer (some ⟨b3, 0, none⟩)), (21, .agg #[.slice c.gX_a c.gX_n c.gX_c, .slice c.gY_a c.gY_n c.gY_c]), (23, .int .i64 a), (25, .agg #[.slice c.gX_a c.gX_n c.gX_c, .slice c.gY_a c.gY_n c.gY_c]), (27, .int .i64 a)] w23 := by
        intro w23 S27
        refine WA.all [3, 9] (by kernel_rfl) rfl ⟨?_, ?_, trivial⟩
        · skip
          refine WO.set #[true, true, true, true, true, true, true, false, false, false, false] (by kernel_rfl) ?_
          refine WO.callF 24 37 #[.agg #[.slice c.gX_a c.gX_n c.gX_c, .slice c.gY_a c.gY_n c.gY_c], .int .i64 a] hb37 (by kernel_rfl) (cvalue_any c a _ (crvQ_sep hc S27) hv) ?_
          rintro _ w24 ⟨rfl, T6⟩
          have S28 : Sep w [box b3 [.int .i64 0, .int .i64 0] 26, box b2 [.int .i64 a, .int .i64 b] 26, box b1 [.slice c.gX_a c.gX_n c.gX_c, .slice c.gY_a c.gY_n c.gY_c] 24] w24 := S27.trans T6
          clear T6 S27
          refine WB.mk (S28.sub (.cons_cons _ (.cons_cons _ (.cons_cons _ (.slnil))))) ?_
          refine WA.weaken (env' := [(2, .pointer (some ⟨b1, 0, none⟩)), (3, .pointer (some ⟨b2, 0, none⟩)), (4, .pointer (some ⟨b3, 0, none⟩)), (24, .int .i64 (valueV c a)), (25, .agg #[.slice c.gX_a c.gX_n c.gX_c, .slice c.gY_a c.gY_n c.gY_c]), (27, .int .i64 a)]) (by kernel_rfl) ?_
          exact W5 w24 S28
        · skip
          refine WO.set #[true, true, true, false, true, true, true, false, false, true, false] (by kernel_rfl) ?_
          refine WO.new S27 6 [.int .i64 0, .int .i64 0] 26 (by kernel_rfl) ?_
          intro bd9 w25 S29
          refine WB.mk (S29.sub (.cons _ (.cons_cons _ (.cons_cons _ (.cons_cons _ (.slnil)))))) ?_
          refine WA.weaken (env' := [(2, .pointer (some ⟨b1, 0, none⟩)), (3, .pointer (some ⟨b2, 0, none⟩)), (4, .pointer (some ⟨b3, 0, none⟩)), (6, .pointer (some ⟨bd9, 0, none⟩)), (21, .agg #[.slice c.gX_a c.gX_n c.gX_c, .slice c.gY_a c.gY_n c.gY_c]), (23, .int .i64 a), (25, .agg #[.slice c.gX_a c.gX_n c.gX_c, .slice c.gY_a c.gY_n c.gY_c]), (27, .int .i64 a)]) (by kernel_rfl) ?_
          exact W6 bd9 w25 S29
      refine J.drawAny (fun w_ => Sep w [box b3 [.int .i64 0, .int .i64 0] 26, box b2 [.int .i64 a, .int .i64 b] 26, box b1 [.slice c.gX_a c.gX_n c.gX_c, .slice c.gY_a c.gY_n c.gY_c] 24] w_) S4 11 #[false, false, false, false, false, false, false, false, false, false, false] Tryd.mixed (by kernel_rfl) (by kernel_rfl) (by kernel_rfl) ?_
      intro w26 S30
      refine WB.mk (S30.sub (.cons_cons _ (.cons_cons _ (.cons_cons _ (.slnil))))) ?_
      refine WA.takeOK 0 #[true, false, false, false, false, false, false, false, false, false, false] (by kernel_rfl) (by kernel_rfl) (by kernel_rfl) (by kernel_rfl) (fun w_ S_ => OK.ldBox S_ 2 21 24 0 (.agg #[.slice c.gX_a c.gX_n c.gX_c, .slice c.gY_a c.gY_n c.gY_c]) (by kernel_rfl) rfl (by kernel_rfl)) rfl ?_
      refine WA.take 1 22 (.pointer (some ⟨b2, 0, none⟩)) #[true, true, false, false, false, false, false, false, false, false, false] (by kernel_rfl) (by kernel_rfl) (by kernel_rfl) (fun _ _ => by kernel_rfl) (by kernel_rfl) ?_
      refine WA.takeOK 2 #[true, true, true, false, false, false, false, false, false, false, false] (by kernel_rfl) (by kernel_rfl) (by kernel_rfl) (by kernel_rfl) (fun w_ S_ => OK.ldBox S_ 1 23 3 0 (.int .i64 a) (by kernel_rfl) rfl (by kernel_rfl)) rfl ?_
      refine WA.takeOK 4 #[true, true, true, false, true, false, false, false, false, false, false] (by kernel_rfl) (by kernel_rfl) (by kernel_rfl) (by kernel_rfl) (fun w_ S_ => OK.ldBox S_ 2 25 24 0 (.agg #[.slice c.gX_a c.gX_n c.gX_c, .slice c.gY_a c.gY_n c.gY_c]) (by kernel_rfl) rfl (by kernel_rfl)) rfl ?_
      refine WA.take 5 26 (.pointer (some ⟨b2, 0, none⟩)) #[true, true, true, false, true, true, false, false, false, false, false] (by kernel_rfl) (by kernel_rfl) (by kernel_rfl) (fun _ _ => by kernel_rfl) (by kernel_rfl) ?_
      refine WA.takeOK 6 #[true, true, true, false, true, true, true, false, false, false, false] (by kernel_rfl) (by kernel_rfl) (by kernel_rfl) (by kernel_rfl) (fun w_ S_ => OK.ldBox S_ 1 27 3 0 (.int .i64 a) (by kernel_rfl) rfl (by kernel_rfl)) rfl ?_
      refine WA.weaken (env' := [(2, .pointer (some ⟨b1, 0, none⟩)), (3, .pointer (some ⟨b2, 0, none⟩)), (4, .pointer (some ⟨b3, 0, none⟩)), (21, .agg #[.slice c.gX_a c.gX_n c.gX_c, .slice c.gY_a c.gY_n c.gY_c]), (23, .int .i64 a), (25, .agg #[.slice c.gX_a c.gX_n c.gX_c, .slice c.gY_a c.gY_n c.gY_c]), (27, .int .i64 a)]) (by kernel_rfl) ?_
      exact W7 w26 S30
  · skip
    refine J.head (.bool true) (congrArg Value.bool (by rw [fk1]; rfl)) ?_
    refine J.run 11 K14_26 [(20, .agg #[.int .i64 0, .int .i64 0]), (4, .pointer (some ⟨b3, 0, none⟩))] w4 (by kernel_rfl) ?_
    refine J.stBox S4 0 26 0 (.agg #[.int .i64 0, .int .i64 0]) [.int .i64 0, .int .i64 0] [box b3 [.int .i64 0, .int .i64 0] 26, box b2 [.int .i64 a, .int .i64 b] 26, box b1 [.slice c.gX_a c.gX_n c.gX_c, .slice c.gY_a c.gY_n c.gY_c] 24] (by kernel_rfl) rfl (by kernel_rfl) (by kernel_rfl) rfl ?_
    intro w27 S31
    refine J.run 2 K14_27 [(5, .int .i64 1), (4, .pointer (some ⟨b3, 0, none⟩))] w27 (by kernel_rfl) ?_
    refine J.ret Tryd.f14 [.agg #[.int .i64 0, .int .i64 0], .int .i64 1] Tryd.func14 ⟨⟨⟨b3, 0, none⟩, by kernel_rfl, ldV_run (S31.nth 0 rfl) (by kernel_rfl)⟩, by kernel_rfl, trivial⟩ ?_
    refine hR _ _ ?_
    obtain ⟨e1, e2, e3⟩ := cov_no (c := c) (a := a) (b := b) (by first | exact .inl fk1 | exact .inr (by omega))
    exact ⟨by rw [tup_two, e1, e2, e3], S31.nil⟩

end Go.Proofs.YtdilhoibcbihlaaDoor

