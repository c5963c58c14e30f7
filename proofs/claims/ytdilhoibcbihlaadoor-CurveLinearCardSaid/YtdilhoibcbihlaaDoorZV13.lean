/- Walks of functions of this seat, printed by a program over the engine. Conditions: as each theorem says. -/
import Derived.Test.YtdilhoibcbihlaaDoorZV12
namespace Go.Proofs.YtdilhoibcbihlaaDoor
open Go.Eng Go.RowKit
set_option linter.unusedSimpArgs false
set_option linter.unusedVariables false
theorem hb27 : HasBody Tryd.prog 27 := fun _ _ => by kernel_rfl
noncomputable def K27_0 : List Item := adv 2 [] (bodyOf Tryd.f27)
noncomputable def K27_1 : List Item := adv 5 [] (popK (popK K27_0))
noncomputable def K27_2 : List Item := adv 2 [] (popK (popK K27_1))
noncomputable def K27_3 : List Item := adv 1 [] K27_2
noncomputable def K27_4 : List Item := adv 3 [] (popK K27_3)
noncomputable def K27_5 : List Item := adv 5 [false] K27_4
noncomputable def K27_6 : List Item := adv 1 [] (popK K27_5)
noncomputable def K27_7 : List Item := adv 10 [] (popK (popK K27_6))
noncomputable def K27_8 : List Item := adv 5 [] K27_7
noncomputable def K27_9 : List Item := adv 6 [true] K27_8
noncomputable def K27_10 : List Item := adv 2 [] (popK (popK K27_9))
noncomputable def K27_11 : List Item := adv 3 [] (rRest K27_10)
noncomputable def K27_12 : List Item := adv 4 [false] K27_8
noncomputable def K27_13 : List Item := adv 2 [] (popK (popK K27_12))
noncomputable def K27_14 : List Item := adv 4 [true] K27_4
noncomputable def K27_15 : List Item := adv 2 [] (popK K27_14)
noncomputable def K27_16 : List Item := adv 9 [true] K27_2
noncomputable def K27_17 : List Item := adv 2 [] (popK K27_16)
set_option maxRecDepth 20000 in
set_option maxHeartbeats 20000000 in
theorem csample_any (c : Crv) (la : Option Addr) (len cap : Nat) (l : List Int) (w : World) (hc : crvQ w c) (hI : Ints w la len l) (hlen : len ≤ 9223372036854775807) : Ret Tryd.prog 27 #[.agg #[.slice c.gX_a c.gX_n c.gX_c, .slice c.gY_a c.gY_n c.gY_c], .slice la len cap] w (fun v w' => ∃ a_ c_ b_ d_, v = .tuple #[.agg #[.slice a_ (saX c l).length c_, .slice b_ (saY c l).length d_], .int .i64 (saE c l)] ∧ Sep w [rowOf encI b_ d_ 3 1 (saY c l), rowOf encI a_ c_ 3 1 (saX c l)] w') := by
  have S0 := Sep.refl w
  refine Ret.named fun R hR => ?_
  refine Ret.of_J (N := 37) [(0, .agg #[.slice c.gX_a c.gX_n c.gX_c, .slice c.gY_a c.gY_n c.gY_c]), (1, .slice la len cap)] Tryd.func27 rfl rfl (Nat.le_of_ble_eq_true (by kernel_rfl)) (by kernel_rfl) ?_
  obtain ⟨q1, q2, q3, q4, q5, q6, _⟩ := id hc
  have ql1 := q2.len_eq
  have ql2 := q5.len_eq
  have hll := hI.len_eq
  refine J.run 2 K27_0 [(0, .agg #[.slice c.gX_a c.gX_n c.gX_c, .slice c.gY_a c.gY_n c.gY_c]), (1, .slice la len cap)] w (by kernel_rfl) ?_
  refine J.new S0 2 [.slice c.gX_a c.gX_n c.gX_c, .slice c.gY_a c.gY_n c.gY_c] 24 (by kernel_rfl) ?_
  intro b1 w1 S1
  refine J.new S1 4 [.slice none 0 0, .slice none 0 0] 24 (by kernel_rfl) ?_
  intro b2 w2 S2
  refine J.run 5 K27_1 [(4, .pointer (some ⟨b2, 0, none⟩)), (2, .pointer (some ⟨b1, 0, none⟩)), (1, .slice la len cap)] w2 (by kernel_rfl) ?_
  refine J.ok (OK.ldBox S2 1 9 24 0 (.agg #[.slice c.gX_a c.gX_n c.gX_c, .slice c.gY_a c.gY_n c.gY_c]) (by kernel_rfl) rfl (by kernel_rfl)) ?_
  refine J.callF 10 16 #[.agg #[.slice c.gX_a c.gX_n c.gX_c, .slice c.gY_a c.gY_n c.gY_c]] hb16 (by kernel_rfl) (cvalid_any c _ (crvQ_sep hc S2)) ?_
  rintro _ w3 ⟨rfl, T1⟩
  have S3 : Sep w [box b2 [.slice none 0 0, .slice none 0 0] 24, box b1 [.slice c.gX_a c.gX_n c.gX_c, .slice c.gY_a c.gY_n c.gY_c] 24] w3 := S2.trans T1
  clear T1 S2
  refine J.run 2 K27_2 [(12, .bool (!(validV c))), (4, .pointer (some ⟨b2, 0, none⟩)), (2, .pointer (some ⟨b1, 0, none⟩)), (1, .slice la len cap)] w3 (by kernel_rfl) ?_
  rcases Bool.eq_false_or_eq_true (validV c) with fk1 | fk1
  · skip
    refine J.head (.bool false) (congrArg Value.bool (by rw [fk1]; rfl)) ?_
    have hv := fk1
    obtain ⟨hv1, hv2, hv3⟩ := validV_facts hv
    obtain ⟨hx1, hx2, hx3⟩ := axis_facts hv2
    have hX : c.gX_l.length = c.gX_n := by omega
    have hY : c.gY_l.length = c.gX_n := by omega
    have hxm := axis_mono hv2 (show 0 < ((c.gX_n : Int) - 1).toNat by omega) (by omega)
    have hx0 := hx2 0 (by omega)
    have hxl := hx2 ((c.gX_n : Int) - 1).toNat (by omega)
    have hdv : dirV c = dirL c.gY_l := by unfold dirV; rw [hv]; rfl
    have hyn : ((c.gY_n : Int) - 1).toNat = ((c.gX_n : Int) - 1).toNat := by omega
    refine J.run 1 K27_3 [(13, .slice la len cap), (12, .bool false), (4, .pointer (some ⟨b2, 0, none⟩)), (2, .pointer (some ⟨b1, 0, none⟩)), (1, .slice la len cap)] w3 (by kernel_rfl) ?_
    refine J.callF 14 40 #[.slice la len cap] hb40 (by kernel_rfl) (caxis_any la len cap l _ (hI.sep S3) (by first | omega | (simp; omega))) ?_
    rintro _ w4 ⟨rfl, T2⟩
    have S4 : Sep w [box b2 [.slice none 0 0, .slice none 0 0] 24, box b1 [.slice c.gX_a c.gX_n c.gX_c, .slice c.gY_a c.gY_n c.gY_c] 24] w4 := S3.trans T2
    clear T2 S3
    refine J.run 3 K27_4 [(16, .bool (!(axisB l))), (4, .pointer (some ⟨b2, 0, none⟩)), (2, .pointer (some ⟨b1, 0, none⟩)), (1, .slice la len cap)] w4 (by kernel_rfl) ?_
    rcases Bool.eq_false_or_eq_true (axisB l) with fk2 | fk2
    · skip
      refine J.head (.bool false) (congrArg Value.bool (by rw [fk2]; rfl)) ?_
      have hll := hI.len_eq
      have hax := (axis_facts fk2).1
      refine J.run 5 K27_5 [(18, .slice la len cap), (4, .pointer (some ⟨b2, 0, none⟩)), (2, .pointer (some ⟨b1, 0, none⟩)), (1, .slice la len cap)] w4 (by kernel_rfl) ?_
      refine J.callF 19 49 #[.slice la len cap] hb49 (by kernel_rfl) (clone_any la len cap l _ (hI.sep S4) (by omega) (by omega)) ?_
      rintro _ w5 ⟨ra1, rc1, rfl, T3⟩
      have S5 : Sep w [rowOf encI ra1 rc1 3 1 l, box b2 [.slice none 0 0, .slice none 0 0] 24, box b1 [.slice c.gX_a c.gX_n c.gX_c, .slice c.gY_a c.gY_n c.gY_c] 24] w5 := S4.trans T3
      clear T3 S4
      refine J.run 1 K27_6 [(20, .agg #[.slice ra1 l.length rc1, .slice none 0 0]), (4, .pointer (some ⟨b2, 0, none⟩)), (2, .pointer (some ⟨b1, 0, none⟩)), (1, .slice la len cap)] w5 (by kernel_rfl) ?_
      refine J.new S5 6 [.slice none 0 0, .slice none 0 0] 24 (by kernel_rfl) ?_
      intro b3 w6 S6
      refine J.stBox S6 0 24 0 (.agg #[.slice ra1 l.length rc1, .slice none 0 0]) [.slice ra1 l.length rc1, .slice none 0 0] [box b3 [.slice ra1 l.length rc1, .slice none 0 0] 24, rowOf encI ra1 rc1 3 1 l, box b2 [.slice none 0 0, .slice none 0 0] 24, box b1 [.slice c.gX_a c.gX_n c.gX_c, .slice c.gY_a c.gY_n c.gY_c] 24] (by kernel_rfl) rfl (by kernel_rfl) (by kernel_rfl) rfl ?_
      intro w7 S7
      refine J.run 10 K27_7 [(23, .int .i64 0), (22, .int .i64 (len : Int)), (21, .slice la len cap), (6, .pointer (some ⟨b3, 0, none⟩)), (4, .pointer (some ⟨b2, 0, none⟩)), (2, .pointer (some ⟨b1, 0, none⟩))] w7 (by kernel_rfl) ?_
      have S8 : Sep w [rowOf encI none 0 3 1 ([]), box b3 [.slice ra1 l.length rc1, .slice none 0 0] 24, rowOf encI ra1 rc1 3 1 l, box b2 [.slice none 0 0, .slice none 0 0] 24, box b1 [.slice c.gX_a c.gX_n c.gX_c, .slice c.gY_a c.gY_n c.gY_c] 24] w7 := S7.nilRow 3 1
      have L27_1 : ∀ (mm_ : Nat) (rb : Option Addr) (rd : Nat) (ys : List Int) (i : Int) (w8 : World), (0 ≤ i) → (i ≤ (len : Int)) → (ys = (l.map fun x => valueV c x).take (i).toNat) → Sep w [rowOf encI rb rd 3 1 ys, box b3 [.slice ra1 l.length rc1, .slice rb ys.length rd] 24, rowOf encI ra1 rc1 3 1 l, box b2 [.slice none 0 0, .slice none 0 0] 24, box b1 [.slice c.gX_a c.gX_n c.gX_c, .slice c.gY_a c.gY_n c.gY_c] 24] w8 → ((len : Int) - i).toNat = mm_ → J Tryd.prog 27 37 R K27_7 [(23, .int .i64 i), (22, .int .i64 (len : Int)), (21, .slice la len cap), (6, .pointer (some ⟨b3, 0, none⟩)), (4, .pointer (some ⟨b2, 0, none⟩)), (2, .pointer (some ⟨b1, 0, none⟩))] w8 := by
        intro mm1
        induction mm1 using Nat.strongRecOn with
        | _ mm1 ih1 =>
        intro rb rd ys i w8 h0 h1 hys S9 hm1
        have hlsy := cv_len h0 (by omega) hys
        refine J.run 5 K27_8 [(24, .bool (decide (i < (len : Int)))), (23, .int .i64 i), (22, .int .i64 (len : Int)), (21, .slice la len cap), (6, .pointer (some ⟨b3, 0, none⟩)), (4, .pointer (some ⟨b2, 0, none⟩)), (2, .pointer (some ⟨b1, 0, none⟩))] w8 (by kernel_rfl) ?_
        by_cases fk3 : i < (len : Int)
        · skip
          refine J.head (.bool true) (congrArg Value.bool (decide_eq_true fk3)) ?_
          refine J.run 6 K27_9 [(23, .int .i64 i), (22, .int .i64 (len : Int)), (21, .slice la len cap), (6, .pointer (some ⟨b3, 0, none⟩)), (4, .pointer (some ⟨b2, 0, none⟩)), (2, .pointer (some ⟨b1, 0, none⟩))] w8 (by kernel_rfl) ?_
          obtain ⟨p1, hp1, hc1⟩ := hI.at 0 (i).toNat (by omega)
          refine J.ok (OK.index 25 22 1 la p1 len (i).toNat i (p1.add (i).toNat) (by kernel_rfl) (by kernel_rfl) hp1 (by omega) (by omega) (by rw [Nat.mul_one])) ?_
          refine J.ok (OK.ldCell 26 3 (p1.add (i).toNat) (.int .i64 (l.getD (i).toNat 0)) (by kernel_rfl) (by kernel_rfl) (S9.cell hc1)) ?_
          refine J.run 2 K27_10 [(8, .int .i64 (l.getD (i).toNat 0)), (23, .int .i64 i), (22, .int .i64 (len : Int)), (21, .slice la len cap), (6, .pointer (some ⟨b3, 0, none⟩)), (4, .pointer (some ⟨b2, 0, none⟩)), (2, .pointer (some ⟨b1, 0, none⟩))] w8 (by kernel_rfl) ?_
          have W1 : ∀ (ad6 : Option Addr) (cd6 : Nat) (w9 : World), Sep w [rowOf encI ad6 cd6 3 1 (ys ++ [valueV c (l.getD (i).toNat 0)]), box b3 [.slice ra1 l.length rc1, .slice ad6 ((ys ++ [valueV c (l.getD (i).toNat 0)]).length) cd6] 24, rowOf encI ra1 rc1 3 1 l, box b2 [.slice none 0 0, .slice none 0 0] 24, box b1 [.slice c.gX_a c.gX_n c.gX_c, .slice c.gY_a c.gY_n c.gY_c] 24] w9 → WA Tryd.prog 27 37 R K27_10 (fun w_ => Sep w [rowOf encI ra1 rc1 3 1 l, box b2 [.slice none 0 0, .slice none 0 0] 24, box b1 [.slice c.gX_a c.gX_n c.gX_c, .slice c.gY_a c.gY_n c.gY_c] 24] w_) 0 #[true, true, true, true, true, true, true, true, true] [(2, .pointer (some ⟨b1, 0, none⟩)), (4, .pointer (some ⟨b2, 0, none⟩)), (6, .pointer (some ⟨b3, 0, none⟩)), (21, .slice la len cap), (22, .int .i64 (len : Int)), (23, .int .i64 i)] w9 := by
            intro ad6 cd6 w9 S10
            refine WA.done (by kernel_rfl) ?_
            refine J.run 0 (rRest K27_10) [(2, .pointer (some ⟨b1, 0, none⟩)), (4, .pointer (some ⟨b2, 0, none⟩)), (6, .pointer (some ⟨b3, 0, none⟩)), (21, .slice la len cap), (22, .int .i64 (len : Int)), (23, .int .i64 i)] w9 (by kernel_rfl) ?_
            refine J.run 3 K27_11 [(35, .int .i64 (IntKind.wrap .i64 (i + 1))), (2, .pointer (some ⟨b1, 0, none⟩)), (4, .pointer (some ⟨b2, 0, none⟩)), (6, .pointer (some ⟨b3, 0, none⟩)), (21, .slice la len cap), (22, .int .i64 (len : Int))] w9 (by kernel_rfl) ?_
            refine J.head (.int .i64 (i + 1)) (congrArg (Value.int .i64) (IntWalk.i64_in _ (by omega))) ?_
            refine J.run 3 K27_7 [(23, .int .i64 (i + 1)), (2, .pointer (some ⟨b1, 0, none⟩)), (4, .pointer (some ⟨b2, 0, none⟩)), (6, .pointer (some ⟨b3, 0, none⟩)), (21, .slice la len cap), (22, .int .i64 (len : Int))] w9 (by kernel_rfl) ?_
            refine J.run 0 K27_7 [(23, .int .i64 (i + 1)), (22, .int .i64 (len : Int)), (21, .slice la len cap), (6, .pointer (some ⟨b3, 0, none⟩)), (4, .pointer (some ⟨b2, 0, none⟩)), (2, .pointer (some ⟨b1, 0, none⟩))] w9 (by kernel_rfl) ?_
            exact ih1 _ (show ((len : Int) - (i + 1)).toNat < mm1 from by omega) ad6 cd6 (ys ++ [valueV c (l.getD (i).toNat 0)]) (i + 1) w9 (by omega) (by omega) (cv_step h0 (by omega) hys) S10 rfl
          have W2 : ∀ (ad6 : Option Addr) (cd6 : Nat) (w10 : World), Sep w [rowOf encI ad6 cd6 3 1 (ys ++ [valueV c (l.getD (i).toNat 0)]), box b3 [.slice ra1 l.length rc1, .slice rb ys.length rd] 24, rowOf encI ra1 rc1 3 1 l, box b2 [.slice none 0 0, .slice none 0 0] 24, box b1 [.slice c.gX_a c.gX_n c.gX_c, .slice c.gY_a c.gY_n c.gY_c] 24] w10 → WA Tryd.prog 27 37 R K27_10 (fun w_ => Sep w [rowOf encI ra1 rc1 3 1 l, box b2 [.slice none 0 0, .slice none 0 0] 24, box b1 [.slice c.gX_a c.gX_n c.gX_c, .slice c.gY_a c.gY_n c.gY_c] 24] w_) 1 #[true, true, true, true, true, true, true, true, false] [(2, .pointer (some ⟨b1, 0, none⟩)), (4, .pointer (some ⟨b2, 0, none⟩)), (6, .pointer (some ⟨b3, 0, none⟩)), (21, .slice la len cap), (22, .int .i64 (len : Int)), (23, .int .i64 i), (33, .slice ad6 ((ys ++ [valueV c (l.getD (i).toNat 0)]).length) cd6), (34, .pointer (some ⟨b3, 1, none⟩))] w10 := by
            intro ad6 cd6 w10 S11
            refine WA.all [8] (by kernel_rfl) rfl ⟨?_, trivial⟩
            · skip
              refine WO.set #[true, true, true, true, true, true, true, true, true] (by kernel_rfl) ?_
              refine WO.stBox S11 1 22 1 (.slice ad6 ((ys ++ [valueV c (l.getD (i).toNat 0)]).length) cd6) [.slice ra1 l.length rc1, .slice ad6 ((ys ++ [valueV c (l.getD (i).toNat 0)]).length) cd6] [rowOf encI ad6 cd6 3 1 (ys ++ [valueV c (l.getD (i).toNat 0)]), box b3 [.slice ra1 l.length rc1, .slice ad6 ((ys ++ [valueV c (l.getD (i).toNat 0)]).length) cd6] 24, rowOf encI ra1 rc1 3 1 l, box b2 [.slice none 0 0, .slice none 0 0] 24, box b1 [.slice c.gX_a c.gX_n c.gX_c, .slice c.gY_a c.gY_n c.gY_c] 24] (by kernel_rfl) rfl (by kernel_rfl) (by kernel_rfl) rfl ?_
              intro w11 S12
              refine WB.mk (S12.sub (.cons _ (.cons _ (.cons_cons _ (.cons_cons _ (.cons_cons _ (.slnil))))))) ?_
              refine WA.weaken (env' := [(2, .pointer (some ⟨b1, 0, none⟩)), (4, .pointer (some ⟨b2, 0, none⟩)), (6, .pointer (some ⟨b3, 0, none⟩)), (21, .slice la len cap), (22, .int .i64 (len : Int)), (23, .int .i64 i)]) (by kernel_rfl) ?_
              exact W1 ad6 cd6 w11 S12
          have W3 : ∀ (bd5 : Nat) (w12 : World), Sep w [box bd5 [.int .i64 (valueV c (l.getD (i).toNat 0))] 3, rowOf encI rb rd 3 1 ys, box b3 [.slice ra1 l.length rc1, .slice rb ys.length rd] 24, rowOf encI ra1 rc1 3 1 l, box b2 [.slice none 0 0, .slice none 0 0] 24, box b1 [.slice c.gX_a c.gX_n c.gX_c, .slice c.gY_a c.gY_n c.gY_c] 24] w12 → WA Tryd.prog 27 37 R K27_10 (fun w_ => Sep w [rowOf encI ra1 rc1 3 1 l, box b2 [.slice none 0 0, .slice none 0 0] 24, box b1 [.slice c.gX_a c.gX_n c.gX_c, .slice c.gY_a c.gY_n c.gY_c] 24] w_) 3 #[true, true, true, true, true, true, false, false, false] [(2, .pointer (some ⟨b1, 0, none⟩)), (4, .pointer (some ⟨b2, 0, none⟩)), (6, .pointer (some ⟨b3, 0, none⟩)), (21, .slice la len cap), (22, .int .i64 (len : Int)), (23, .int .i64 i), (28, .slice rb ys.length rd), (32, .slice (some ⟨bd5, 0, none⟩) 1 1)] w12 := by
            intro bd5 w12 S13
            refine WA.all [6] (by kernel_rfl) rfl ⟨?_, trivial⟩
            · skip
              refine WO.set #[true, true, true, true, true, true, true, false, false] (by kernel_rfl) ?_
              refine WO.append encI S13 1 ys (valueV c (l.getD (i).toNat 0)) 33 22 (.int .i64 0) 8 ⟨bd5, 0, none⟩ 1 rfl (by kernel_rfl) (by kernel_rfl) (by kernel_rfl) (by kernel_rfl) (by decide) (box_cells (S13.nth 0 rfl)) (by kernel_rfl) (by kernel_rfl) (⟨by omega, by omega⟩) ?_
              intro ad6 cd6 w13 S14
              replace S14 : Sep w [box bd5 [.int .i64 (valueV c (l.getD (i).toNat 0))] 3, rowOf encI ad6 cd6 3 1 (ys ++ [valueV c (l.getD (i).toNat 0)]), box b3 [.slice ra1 l.length rc1, .slice rb ys.length rd] 24, rowOf encI ra1 rc1 3 1 l, box b2 [.slice none 0 0, .slice none 0 0] 24, box b1 [.slice c.gX_a c.gX_n c.gX_c, .slice c.gY_a c.gY_n c.gY_c] 24] w13 := S14
              have S15 : Sep w [rowOf encI ad6 cd6 3 1 (ys ++ [valueV c (l.getD (i).toNat 0)]), box b3 [.slice ra1 l.length rc1, .slice rb ys.length rd] 24, rowOf encI ra1 rc1 3 1 l, box b2 [.slice none 0 0, .slice none 0 0] 24, box b1 [.slice c.gX_a c.gX_n c.gX_c, .slice c.gY_a c.gY_n c.gY_c] 24] w13 := S14.erase 0
              clear S14
              refine WB.mk (S15.sub (.cons _ (.cons _ (.cons_cons _ (.cons_cons _ (.cons_cons _ (.slnil))))))) ?_
              refine WA.take 7 34 (.pointer (some ⟨b3, 1, none⟩)) #[true, true, true, true, true, true, true, true, false] (by kernel_rfl) (by kernel_rfl) (by kernel_rfl) (fun _ _ => by kernel_rfl) (by kernel_rfl) ?_
              refine WA.weaken (env' := [(2, .pointer (some ⟨b1, 0, none⟩)), (4, .pointer (some ⟨b2, 0, none⟩)), (6, .pointer (some ⟨b3, 0, none⟩)), (21, .slice la len cap), (22, .int .i64 (len : Int)), (23, .int .i64 i), (33, .slice ad6 ((ys ++ [valueV c (l.getD (i).toNat 0)]).length) cd6), (34, .pointer (some ⟨b3, 1, none⟩))]) (by kernel_rfl) ?_
              exact W2 ad6 cd6 w13 S15
          have W4 : ∀ (w14 : World), Sep w [rowOf encI rb rd 3 1 ys, box b3 [.slice ra1 l.length rc1, .slice rb ys.length rd] 24, rowOf encI ra1 rc1 3 1 l, box b2 [.slice none 0 0, .slice none 0 0] 24, box b1 [.slice c.gX_a c.gX_n c.gX_c, .slice c.gY_a c.gY_n c.gY_c] 24] w14 → WA Tryd.prog 27 37 R K27_10 (fun w_ => Sep w [rowOf encI ra1 rc1 3 1 l, box b2 [.slice none 0 0, .slice none 0 0] 24, box b1 [.slice c.gX_a c.gX_n c.gX_c, .slice c.gY_a c.gY_n c.gY_c] 24] w_) 4 #[true, true, true, true, true, false, false, false, false] [(2, .pointer (some ⟨b1, 0, none⟩)), (4, .pointer (some ⟨b2, 0, none⟩)), (6, .pointer (some ⟨b3, 0, none⟩)), (21, .slice la len cap), (22, .int .i64 (len : Int)), (23, .int .i64 i), (28, .slice rb ys.length rd), (31, .int .i64 (valueV c (l.getD (i).toNat 0)))] w14 := by
            intro w14 S16
            refine WA.all [5] (by kernel_rfl) rfl ⟨?_, trivial⟩
            · skip
              refine WO.set #[true, true, true, true, true, true, false, false, false] (by kernel_rfl) ?_
              refine WO.newSlice S16 32 1 [.int .i64 (valueV c (l.getD (i).toNat 0))] 3 (by kernel_rfl) ?_
              intro bd5 w15 S17
              refine WB.mk (S17.sub (.cons _ (.cons _ (.cons _ (.cons_cons _ (.cons_cons _ (.cons_cons _ (.slnil)))))))) ?_
              refine WA.weaken (env' := [(2, .pointer (some ⟨b1, 0, none⟩)), (4, .pointer (some ⟨b2, 0, none⟩)), (6, .pointer (some ⟨b3, 0, none⟩)), (21, .slice la len cap), (22, .int .i64 (len : Int)), (23, .int .i64 i), (28, .slice rb ys.length rd), (32, .slice (some ⟨bd5, 0, none⟩) 1 1)]) (by kernel_rfl) ?_
              exact W3 bd5 w15 S17
          have W5 : ∀ (bd5 : Nat) (w16 : World), Sep w [box bd5 [.int .i64 (valueV c (l.getD (i).toNat 0))] 3, rowOf encI rb rd 3 1 ys, box b3 [.slice ra1 l.length rc1, .slice rb ys.length rd] 24, rowOf encI ra1 rc1 3 1 l, box b2 [.slice none 0 0, .slice none 0 0] 24, box b1 [.slice c.gX_a c.gX_n c.gX_c, .slice c.gY_a c.gY_n c.gY_c] 24] w16 → WA Tryd.prog 27 37 R K27_10 (fun w_ => Sep w [rowOf encI ra1 rc1 3 1 l, box b2 [.slice none 0 0, .slice none 0 0] 24, box b1 [.slice c.gX_a c.gX_n c.gX_c, .slice c.gY_a c.gY_n c.gY_c] 24] w_) 4 #[true, false, true, true, true, true, false, false, false] [(2, .pointer (some ⟨b1, 0, none⟩)), (4, .pointer (some ⟨b2, 0, none⟩)), (6, .pointer (some ⟨b3, 0, none⟩)), (21, .slice la len cap), (22, .int .i64 (len : Int)), (23, .int .i64 i), (27, .pointer (some ⟨b3, 1, none⟩)), (32, .slice (some ⟨bd5, 0, none⟩) 1 1)] w16 := by
            intro bd5 w16 S18
            refine WA.all [1] (by kernel_rfl) rfl ⟨?_, trivial⟩
            · skip
              refine WO.set #[true, true, true, true, true, true, false, false, false] (by kernel_rfl) ?_
              refine WO.ok (OK.ldBox S18 2 28 22 1 (.slice rb ys.length rd) (by kernel_rfl) rfl (by kernel_rfl)) ?_
              refine WB.mk (S18.sub (.cons _ (.cons _ (.cons _ (.cons_cons _ (.cons_cons _ (.cons_cons _ (.slnil)))))))) ?_
              refine WA.weaken (env' := [(2, .pointer (some ⟨b1, 0, none⟩)), (4, .pointer (some ⟨b2, 0, none⟩)), (6, .pointer (some ⟨b3, 0, none⟩)), (21, .slice la len cap), (22, .int .i64 (len : Int)), (23, .int .i64 i), (28, .slice rb ys.length rd), (32, .slice (some ⟨bd5, 0, none⟩) 1 1)]) (by kernel_rfl) ?_
              exact W3 bd5 w16 S18
          have W6 : ∀ (w17 : World), Sep w [rowOf encI rb rd 3 1 ys, box b3 [.slice ra1 l.length rc1, .slice rb ys.length rd] 24, rowOf encI ra1 rc1 3 1 l, box b2 [.slice none 0 0, .slice none 0 0] 24, box b1 [.slice c.gX_a c.gX_n c.gX_c, .slice c.gY_a c.gY_n c.gY_c] 24] w17 → WA Tryd.prog 27 37 R K27_10 (fun w_ => Sep w [rowOf encI ra1 rc1 3 1 l, box b2 [.slice none 0 0, .slice none 0 0] 24, box b1 [.slice c.gX_a c.gX_n c.gX_c, .slice c.gY_a c.gY_n c.gY_c] 24] w_) 5 #[true, true, true, true, false, false, false, false, false] [(2, .pointer (some ⟨b1, 0, none⟩)), (4, .pointer (some ⟨b2, 0, none⟩)), (6, .pointer (some ⟨b3, 0, none⟩)), (21, .slice la len cap), (22, .int .i64 (len : Int)), (23, .int .i64 i), (28, .slice rb ys.length rd), (29, .agg #[.slice c.gX_a c.gX_n c.gX_c, .slice c.gY_a c.gY_n c.gY_c]), (30, .int .i64 (l.getD (i).toNat 0))] w17 := by
            intro w17 S19
            refine WA.all [4] (by kernel_rfl) rfl ⟨?_, trivial⟩
            · skip
              refine WO.set #[true, true, true, true, true, false, false, false, false] (by kernel_rfl) ?_
              refine WO.callF 31 37 #[.agg #[.slice c.gX_a c.gX_n c.gX_c, .slice c.gY_a c.gY_n c.gY_c], .int .i64 (l.getD (i).toNat 0)] hb37 (by kernel_rfl) (cvalue_any c (l.getD (i).toNat 0) _ (crvQ_sep hc S19) hv) ?_
              rintro _ w18 ⟨rfl, T4⟩
              have S20 : Sep w [rowOf encI rb rd 3 1 ys, box b3 [.slice ra1 l.length rc1, .slice rb ys.length rd] 24, rowOf encI ra1 rc1 3 1 l, box b2 [.slice none 0 0, .slice none 0 0] 24, box b1 [.slice c.gX_a c.gX_n c.gX_c, .slice c.gY_a c.gY_n c.gY_c] 24] w18 := S19.trans T4
              clear T4 S19
              refine WB.mk (S20.sub (.cons _ (.cons _ (.cons_cons _ (.cons_cons _ (.cons_cons _ (.slnil))))))) ?_
              refine WA.weaken (env' := [(2, .pointer (some ⟨b1, 0, none⟩)), (4, .pointer (some ⟨b2, 0, none⟩)), (6, .pointer (some ⟨b3, 0, none⟩)), (21, .slice la len cap), (22, .int .i64 (len : Int)), (23, .int .i64 i), (28, .slice rb ys.length rd), (31, .int .i64 (valueV c (l.getD (i).toNat 0)))]) (by kernel_rfl) ?_
              exact W4 w18 S20
          have W7 : ∀ (w19 : World), Sep w [rowOf encI rb rd 3 1 ys, box b3 [.slice ra1 l.length rc1, .slice rb ys.length rd] 24, rowOf encI ra1 rc1 3 1 l, box b2 [.slice none 0 0, .slice none 0 0] 24, box b1 [.slice c.gX_a c.gX_n c.gX_c, .slice c.gY_a c.gY_n c.gY_c] 24] w19 → WA Tryd.prog 27 37 R K27_10 (fun w_ => Sep w [rowOf encI ra1 rc1 3 1 l, box b2 [.slice none 0 0, .slice none 0 0] 24, box b1 [.slice c.gX_a c.gX_n c.gX_c, .slice c.gY_a c.gY_n c.gY_c] 24] w_) 5 #[true, false, true, true, true, false, false, false, false] [(2, .pointer (some ⟨b1, 0, none⟩)), (4, .pointer (some ⟨b2, 0, none⟩)), (6, .pointer (some ⟨b3, 0, none⟩)), (21, .slice la len cap), (22, .int .i64 (len : Int)), (23, .int .i64 i), (27, .pointer (some ⟨b3, 1, none⟩)), (31, .int .i64 (valueV c (l.getD (i).toNat 0)))] w19 := by
            intro w19 S21
            refine WA.all [1, 5] (by kernel_rfl) rfl ⟨?_, ?_, trivial⟩
            · skip
              refine WO.set #[true, true, true, true, true, false, false, false, false] (by kernel_rfl) ?_
              refine WO.ok (OK.ldBox S21 1 28 22 1 (.slice rb ys.length rd) (by kernel_rfl) rfl (by kernel_rfl)) ?_
              refine WB.mk (S21.sub (.cons _ (.cons _ (.cons_cons _ (.cons_cons _ (.cons_cons _ (.slnil))))))) ?_
              refine WA.weaken (env' := [(2, .pointer (some ⟨b1, 0, none⟩)), (4, .pointer (some ⟨b2, 0, none⟩)), (6, .pointer (some ⟨b3, 0, none⟩)), (21, .slice la len cap), (22, .int .i64 (len : Int)), (23, .int .i64 i), (28, .slice rb ys.length rd), (31, .int .i64 (valueV c (l.getD (i).toNat 0)))]) (by kernel_rfl) ?_
              exact W4 w19 S21
            · skip
              refine WO.set #[true, false, true, true, true, true, false, false, false] (by kernel_rfl) ?_
              refine WO.newSlice S21 32 1 [.int .i64 (valueV c (l.getD (i).toNat 0))] 3 (by kernel_rfl) ?_
              intro bd5 w20 S22
              refine WB.mk (S22.sub (.cons _ (.cons _ (.cons _ (.cons_cons _ (.cons_cons _ (.cons_cons _ (.slnil)))))))) ?_
              refine WA.weaken (env' := [(2, .pointer (some ⟨b1, 0, none⟩)), (4, .pointer (some ⟨b2, 0, none⟩)), (6, .pointer (some ⟨b3, 0, none⟩)), (21, .slice la len cap), (22, .int .i64 (len : Int)), (23, .int .i64 i), (27, .pointer (some ⟨b3, 1, none⟩)), (32, .slice (some ⟨bd5, 0, none⟩) 1 1)]) (by kernel_rfl) ?_
              exact W5 bd5 w20 S22
          have W8 : ∀ (w21 : World), Sep w [rowOf encI rb rd 3 1 ys, box b3 [.slice ra1 l.length rc1, .slice rb ys.length rd] 24, rowOf encI ra1 rc1 3 1 l, box b2 [.slice none 0 0, .slice none 0 0] 24, box b1 [.slice c.gX_a c.gX_n c.gX_c, .slice c.gY_a c.gY_n c.gY_c] 24] w21 → WA Tryd.prog 27 37 R K27_10 (fun w_ => Sep w [rowOf encI ra1 rc1 3 1 l, box b2 [.slice none 0 0, .slice none 0 0] 24, box b1 [.slice c.gX_a c.gX_n c.gX_c, .slice c.gY_a c.gY_n c.gY_c] 24] w_) 6 #[true, false, true, true, false, false, false, false, false] [(2, .pointer (some ⟨b1, 0, none⟩)), (4, .pointer (some ⟨b2, 0, none⟩)), (6, .pointer (some ⟨b3, 0, none⟩)), (21, .slice la len cap), (22, .int .i64 (len : Int)), (23, .int .i64 i), (27, .pointer (some ⟨b3, 1, none⟩)), (29, .agg #[.slice c.gX_a c.gX_n c.gX_c, .slice c.gY_a c.gY_n c.gY_c]), (30, .int .i64 (l.getD (i).toNat 0))] w21 := by
            intro w21 S23
            refine WA.all [1, 4] (by kernel_rfl) rfl ⟨?_, ?_, trivial⟩
            · skip
              refine WO.set #[true, true, true, true, false, false, false, false, false] (by kernel_rfl) ?_
              refine WO.ok (OK.ldBox S23 1 28 22 1 (.slice rb ys.length rd) (by kernel_rfl) rfl (by kernel_rfl)) ?_
              refine WB.mk (S23.sub (.cons _ (.cons _ (.cons_cons _ (.cons_cons _ (.cons_cons _ (.slnil))))))) ?_
              refine WA.weaken (env' := [(2, .pointer (some ⟨b1, 0, none⟩)), (4, .pointer (some ⟨b2, 0, none⟩)), (6, .pointer (some ⟨b3, 0, none⟩)), (21, .slice la len cap), (22, .int .i64 (len : Int)), (23, .int .i64 i), (28, .slice rb ys.length rd), (29, .agg #[.slice c.gX_a c.gX_n c.gX_c, .slice c.gY_a c.gY_n c.gY_c]), (30, .int .i64 (l.getD (i).toNat 0))]) (by kernel_rfl) ?_
              exact W6 w21 S23
            · skip
              refine WO.set #[true, false, true, true, true, false, false, false, false] (by kernel_rfl) ?_
              refine WO.callF 31 37 #[.agg #[.slice c.gX_a c.gX_n c.gX_c, .slice c.gY_a c.gY_n c.gY_c], .int .i64 (l.getD (i).toNat 0)] hb37 (by kernel_rfl) (cvalue_any c (l.getD (i).toNat 0) _ (crvQ_sep hc S23) hv) ?_
              rintro _ w22 ⟨rfl, T5⟩
              have S24 : Sep w [rowOf encI rb rd 3 1 ys, box b3 [.slice ra1 l.length rc1, .slice rb ys.length rd] 24, rowOf encI ra1 rc1 3 1 l, box b2 [.slice none 0 0, .slice none 0 0] 24, box b1 [.slice c.gX_a c.gX_n c.gX_c, .slice c.gY_a c.gY_n c.gY_c] 24] w22 := S23.trans T5
              clear T5 S23
              refine WB.mk (S24.sub (.cons _ (.cons _ (.cons_cons _ (.cons_cons _ (.cons_cons _ (.slnil))))))) ?_
              refine WA.weaken (env' := [(2, .pointer (some ⟨b1, 0, none⟩)), (4, .pointer (some ⟨b2, 0, none⟩)), (6, .pointer (some ⟨b3, 0, none⟩)), (21, .slice la len cap), (22, .int .i64 (len : Int)), (23, .int .i64 i), (27, .pointer (some ⟨b3, 1, none⟩)), (31, .int .i64 (valueV c (l.getD (i).toNat 0)))]) (by kernel_rfl) ?_
              exact W7 w22 S24
          refine J.drawAny (fun w_ => Sep w [rowOf encI ra1 rc1 3 1 l, box b2 [.slice none 0 0, .slice none 0 0] 24, box b1 [.slice c.gX_a c.gX_n c.gX_c, .slice c.gY_a c.gY_n c.gY_c] 24] w_) S9 9 #[false, false, false, false, false, false, false, false, false] Tryd.mixed (by kernel_rfl) (by kernel_rfl) (by kernel_rfl) ?_
          intro w23 S25
          refine WB.mk (S25.sub (.cons _ (.cons _ (.cons_cons _ (.cons_cons _ (.cons_cons _ (.slnil))))))) ?_
          refine WA.take 0 27 (.pointer (some ⟨b3, 1, none⟩)) #[true, false, false, false, false, false, false, false, false] (by kernel_rfl) (by kernel_rfl) (by kernel_rfl) (fun _ _ => by kernel_rfl) (by kernel_rfl) ?_
          refine WA.takeOK 2 #[true, false, true, false, false, false, false, false, false] (by kernel_rfl) (by kernel_rfl) (by kernel_rfl) (by kernel_rfl) (fun w_ S_ => OK.ldBox S_ 2 29 24 0 (.agg #[.slice c.gX_a c.gX_n c.gX_c, .slice c.gY_a c.gY_n c.gY_c]) (by kernel_rfl) rfl (by kernel_rfl)) rfl ?_
          refine WA.take 3 30 (.int .i64 (l.getD (i).toNat 0)) #[true, false, true, true, false, false, false, false, false] (by kernel_rfl) (by kernel_rfl) (by kernel_rfl) (fun _ _ => by kernel_rfl) (by kernel_rfl) ?_
          refine WA.weaken (env' := [(2, .pointer (some ⟨b1, 0, none⟩)), (4, .pointer (some ⟨b2, 0, none⟩)), (6, .pointer (some ⟨b3, 0, none⟩)), (21, .slice la len cap), (22, .int .i64 (len : Int)), (23, .int .i64 i), (27, .pointer (some ⟨b3, 1, none⟩)), (29, .agg #[.slice c.gX_a c.gX_n c.gX_c, .slice c.gY_a c.gY_n c.gY_c]), (30, .int .i64 (l.getD (i).toNat 0))]) (by kernel_rfl) ?_
          exact W8 w23 S25
        · skip
          refine J.head (.bool false) (congrArg Value.bool (decide_eq_false fk3)) ?_
          refine J.run 4 K27_12 [(6, .pointer (some ⟨b3, 0, none⟩)), (4, .pointer (some ⟨b2, 0, none⟩))] w8 (by kernel_rfl) ?_
          refine J.ok (OK.ldBox S9 1 36 24 0 (.agg #[.slice ra1 l.length rc1, .slice rb ys.length rd]) (by kernel_rfl) rfl (by kernel_rfl)) ?_
          refine J.stBox S9 3 24 0 (.agg #[.slice ra1 l.length rc1, .slice rb ys.length rd]) [.slice ra1 l.length rc1, .slice rb ys.length rd] [rowOf encI rb rd 3 1 ys, box b3 [.slice ra1 l.length rc1, .slice rb ys.length rd] 24, rowOf encI ra1 rc1 3 1 l, box b2 [.slice ra1 l.length rc1, .slice rb ys.length rd] 24, box b1 [.slice c.gX_a c.gX_n c.gX_c, .slice c.gY_a c.gY_n c.gY_c] 24] (by kernel_rfl) rfl (by kernel_rfl) (by kernel_rfl) rfl ?_
          intro w24 S26
          refine J.run 2 K27_13 [(5, .int .i64 0), (4, .pointer (some ⟨b2, 0, none⟩))] w24 (by kernel_rfl) ?_
          refine J.ret Tryd.f27 [.agg #[.slice ra1 l.length rc1, .slice rb ys.length rd], .int .i64 0] Tryd.func27 ⟨⟨⟨b2, 0, none⟩, by kernel_rfl, ldV_run (S26.nth 3 rfl) (by kernel_rfl)⟩, by kernel_rfl, trivial⟩ ?_
          refine hR _ _ ?_
          have e_ := cv_end (by omega) hys
          subst e_
          obtain ⟨e1, e2, e3⟩ := sa_yes (c := c) (l := l) hv fk2
          refine ⟨ra1, rc1, rb, rd, ?_, ?_⟩
          · rw [e1, e2, e3]; first | rfl | simp
          · rw [e2, e3]; exact S26.two 2 1 rfl rfl (by decide)
      exact L27_1 _ none 0 ([]) 0 w7 (by omega) (by omega) (rfl) S8 rfl
    · skip
      refine J.head (.bool true) (congrArg Value.bool (by rw [fk2]; rfl)) ?_
      refine J.run 4 K27_14 [(17, .agg #[.slice none 0 0, .slice none 0 0]), (4, .pointer (some ⟨b2, 0, none⟩))] w4 (by kernel_rfl) ?_
      refine J.stBox S4 0 24 0 (.agg #[.slice none 0 0, .slice none 0 0]) [.slice none 0 0, .slice none 0 0] [box b2 [.slice none 0 0, .slice none 0 0] 24, box b1 [.slice c.gX_a c.gX_n c.gX_c, .slice c.gY_a c.gY_n c.gY_c] 24] (by kernel_rfl) rfl (by kernel_rfl) (by kernel_rfl) rfl ?_
      intro w25 S27
      refine J.run 2 K27_15 [(5, .int .i64 1), (4, .pointer (some ⟨b2, 0, none⟩))] w25 (by kernel_rfl) ?_
      refine J.ret Tryd.f27 [.agg #[.slice none 0 0, .slice none 0 0], .int .i64 1] Tryd.func27 ⟨⟨⟨b2, 0, none⟩, by kernel_rfl, ldV_run (S27.nth 0 rfl) (by kernel_rfl)⟩, by kernel_rfl, trivial⟩ ?_
      refine hR _ _ ?_
      obtain ⟨e1, e2, e3⟩ := sa_bad (c := c) (l := l) (by first | exact .inl fk1 | exact .inr fk2)
      refine ⟨none, 0, none, 0, ?_, ?_⟩
      · rw [e1, e2, e3]; rfl
      · rw [e2, e3]; exact (S27.nil.nilRow 3 1).nilRow 3 1
  · skip
    refine J.head (.bool true) (congrArg Value.bool (by rw [fk1]; rfl)) ?_
    refine J.run 9 K27_16 [(17, .agg #[.slice none 0 0, .slice none 0 0]), (4, .pointer (some ⟨b2, 0, none⟩))] w3 (by kernel_rfl) ?_
    refine J.stBox S3 0 24 0 (.agg #[.slice none 0 0, .slice none 0 0]) [.slice none 0 0, .slice none 0 0] [box b2 [.slice none 0 0, .slice none 0 0] 24, box b1 [.slice c.gX_a c.gX_n c.gX_c, .slice c.gY_a c.gY_n c.gY_c] 24] (by kernel_rfl) rfl (by kernel_rfl) (by kernel_rfl) rfl ?_
    intro w26 S28
    refine J.run 2 K27_17 [(5, .int .i64 1), (4, .pointer (some ⟨b2, 0, none⟩))] w26 (by kernel_rfl) ?_
    refine J.ret Tryd.f27 [.agg #[.slice none 0 0, .slice none 0 0], .int .i64 1] Tryd.func27 ⟨⟨⟨b2, 0, none⟩, by kernel_rfl, ldV_run (S28.nth 0 rfl) (by kernel_rfl)⟩, by kernel_rfl, trivial⟩ ?_
    refine hR _ _ ?_
    obtain ⟨e1, e2, e3⟩ := sa_bad (c := c) (l := l) (by first | exact .inl fk1 | exact .inr fk1)
    refine ⟨none, 0, none, 0, ?_, ?_⟩
    · rw [e1, e2, e3]; rfl
    · rw [e2, e3]; exact (S28.nil.nilRow 3 1).nilRow 3 1

end Go.Proofs.YtdilhoibcbihlaaDoor

