/- Walks of functions of this seat, printed by a program over the engine. Conditions: as each theorem says. -/
import Derived.Test.YtdilhoibcbihlaaDoorZV11
namespace Go.Proofs.YtdilhoibcbihlaaDoor
open Go.Eng Go.RowKit
set_option linter.unusedSimpArgs false
set_option linter.unusedVariables false
theorem cv_step {f : Int → Int} {l ys : List Int} {i : Int} (h0 : 0 ≤ i) (h : i < (l.length : Int)) (hy : ys = (l.map f).take i.toNat) : ys ++ [f (l.getD i.toNat 0)] = (l.map f).take (i + 1).toNat := by
  rw [hy, show (i + 1).toNat = i.toNat + 1 by omega, List.take_succ_eq_append_getElem (by rw [List.length_map]; omega)]
  simp [List.getD, show i.toNat < l.length by omega]
theorem cv_len {f : Int → Int} {l ys : List Int} {i : Int} (h0 : 0 ≤ i) (h : i ≤ (l.length : Int)) (hy : ys = (l.map f).take i.toNat) : ys.length = i.toNat := by
  rw [hy, List.length_take, List.length_map]; omega
theorem cv_end {f : Int → Int} {l ys : List Int} {i : Int} (h : (l.length : Int) ≤ i) (hy : ys = (l.map f).take i.toNat) : ys = l.map f := by
  rw [hy]; exact List.take_of_length_le (by rw [List.length_map]; omega)
def okS (n d v : Int) : Bool := decide (mdE v n d 3 = 0) && elB (mdX v n d 3)
def scE (c : Crv) (n d : Int) : Int := if validV c then if d = 0 then 10 else if c.gY_l.all (okS n d) then 0 else 2 else 1
def scX (c : Crv) (n d : Int) : List Int := if scE c n d = 0 then c.gX_l else []
def scY (c : Crv) (n d : Int) : List Int := if scE c n d = 0 then c.gY_l.map (fun v => mdX v n d 3) else []
theorem sc_bad {c : Crv} {n d k : Int} (h : scE c n d = k) (hk : k ≠ 0) : scE c n d = k ∧ scX c n d = [] ∧ scY c n d = [] := by
  unfold scX scY; rw [if_neg (by omega), if_neg (by omega)]; exact ⟨h, rfl, rfl⟩
theorem sc_one {c : Crv} {n d : Int} (h : validV c = false) : scE c n d = 1 := by unfold scE; rw [h]; rfl
theorem sc_ten {c : Crv} {n d : Int} (h : validV c = true) (hd : d = 0) : scE c n d = 10 := by unfold scE; rw [if_pos h, if_pos hd]
theorem sc_two {c : Crv} {n d : Int} {j : Int} (h : validV c = true) (hd : d ≠ 0) (h0 : 0 ≤ j) (hj : j < (c.gY_l.length : Int)) (hb : mdE (c.gY_l.getD j.toNat 0) n d 3 ≠ 0 ∨ elB (mdX (c.gY_l.getD j.toNat 0) n d 3) = false) : scE c n d = 2 := by
  unfold scE; rw [if_pos h, if_neg hd, all_no 0 (j := j.toNat) (by omega)]; rfl
  unfold okS
  rcases hb with h | h
  · rw [decide_eq_false h]; rfl
  · rw [h, Bool.and_false]
theorem sc_yes {c : Crv} {n d : Int} {i : Int} (h : validV c = true) (hd : d ≠ 0) (hi : (c.gY_l.length : Int) ≤ i) (hq : ∀ j, j < i.toNat → okS n d (c.gY_l.getD j 0) = true) : scE c n d = 0 ∧ scX c n d = c.gX_l ∧ scY c n d = c.gY_l.map (fun v => mdX v n d 3) := by
  have e : scE c n d = 0 := by
    unfold scE; rw [if_pos h, if_neg hd, (all_getD 0).2 fun j hj => hq j (by omega)]; rfl
  unfold scX scY; rw [if_pos e, if_pos e]; exact ⟨e, rfl, rfl⟩
theorem okS_yes {n d v : Int} (h : mdE v n d 3 = 0) (h2 : elB (mdX v n d 3) = true) : okS n d v = true := by unfold okS; rw [h, h2]; rfl
def saE (c : Crv) (l : List Int) : Int := if validV c && axisB l then 0 else 1
def saX (c : Crv) (l : List Int) : List Int := if saE c l = 0 then l else []
def saY (c : Crv) (l : List Int) : List Int := if saE c l = 0 then l.map (fun x => valueV c x) else []
theorem sa_bad {c : Crv} {l : List Int} (h : validV c = false ∨ axisB l = false) : saE c l = 1 ∧ saX c l = [] ∧ saY c l = [] := by
  have e : saE c l = 1 := by
    unfold saE; rcases h with h | h
    · rw [h]; rfl
    · rw [h, Bool.and_false]; rfl
  unfold saX saY; rw [if_neg (by omega), if_neg (by omega)]; exact ⟨e, rfl, rfl⟩
theorem sa_yes {c : Crv} {l : List Int} (h : validV c = true) (h2 : axisB l = true) : saE c l = 0 ∧ saX c l = l ∧ saY c l = l.map (fun x => valueV c x) := by
  have e : saE c l = 0 := by unfold saE; rw [h, h2]; rfl
  unfold saX saY; rw [if_pos e, if_pos e]; exact ⟨e, rfl, rfl⟩

theorem hb49 : HasBody Tryd.prog 49 := fun _ _ => by kernel_rfl
noncomputable def K49_0 : List Item := adv 8 [] (bodyOf Tryd.f49)
noncomputable def K49_1 : List Item := adv 1 [] (popK K49_0)
noncomputable def K49_2 : List Item := adv 5 [true] K49_1
noncomputable def K49_3 : List Item := adv 4 [false] K49_1
noncomputable def K49_4 : List Item := adv 1 [] (popK K49_3)
noncomputable def K49_5 : List Item := adv 2 [] (popK K49_4)
set_option maxRecDepth 20000 in
set_option maxHeartbeats 20000000 in
theorem clone_any (la : Option Addr) (len cap : Nat) (l : List Int) (w : World) (hI : Ints w la len l) (hlen : len ≤ 9223372036854775807) (hsm : len ≤ 4096) : Ret Tryd.prog 49 #[.slice la len cap] w (fun v w' => ∃ a cap, v = .slice a (l).length cap ∧ Sep w [rowOf encI a cap 3 1 (l)] w') := by
  have S0 := Sep.refl w
  refine Ret.named fun R hR => ?_
  refine Ret.of_J (N := 8) [(0, .slice la len cap)] Tryd.func49 rfl rfl (Nat.le_of_ble_eq_true (by kernel_rfl)) (by kernel_rfl) ?_
  have hll := hI.len_eq
  refine J.run 8 K49_0 [(3, .slice la len cap), (0, .slice la len cap)] w (by kernel_rfl) ?_
  refine J.ok (OK.nilS 4 true 22 la (by kernel_rfl) (by kernel_rfl) la.isNone (by simp)) ?_
  refine J.run 1 K49_1 [(4, .bool la.isNone), (0, .slice la len cap)] w (by kernel_rfl) ?_
  rcases Bool.eq_false_or_eq_true la.isNone with fk1 | fk1
  · skip
    refine J.head (.bool true) (congrArg Value.bool fk1) ?_
    refine J.run 5 K49_2 [(2, .slice none 0 0)] w (by kernel_rfl) ?_
    refine J.ret Tryd.f49 [.slice none 0 0] Tryd.func49 ⟨by kernel_rfl, trivial⟩ ?_
    refine hR _ _ ?_
    have e_ : l = [] := by cases la with | none => exact hI.nil | some p => simp at fk1
    subst e_
    exact ⟨none, 0, rfl, S0.nilRow 3 1⟩
  · skip
    refine J.head (.bool false) (congrArg Value.bool fk1) ?_
    refine J.run 4 K49_3 [(0, .slice la len cap)] w (by kernel_rfl) ?_
    refine J.newSlice S0 5 0 [] 3 (by kernel_rfl) ?_
    intro b1 w1 S1
    refine J.run 1 K49_4 [(6, .slice la len cap), (5, .slice (some ⟨b1, 0, none⟩) 0 0)] w1 (by kernel_rfl) ?_
    have S2 : Sep w [rowOf encI (some ⟨b1, 0, none⟩) 0 3 1 ([])] w1 := box_row encI S1 0 [] 1 rfl rfl rfl (by simp [maxLen]) (.inr trivial)
    have hz1 := hI.sep S2
    have := hz1.len_eq
    refine J.appendN encI S2 0 ([]) l len (by first | omega | (simp; omega)) 7 22 (.int .i64 0) 8 la cap rfl (by kernel_rfl) (by kernel_rfl) (by kernel_rfl) (by kernel_rfl) (by decide) (hI.sep S2).enc (fun h_ => Ones.nil (h_ ▸ hz1)) (fun _ => rfl) (fun _ => rfl) (⟨by first | omega | (simp; omega), by first | omega | (simp; omega)⟩) ?_
    intro ra1 rc1 w2 S3
    replace S3 : Sep w [rowOf encI ra1 rc1 3 1 l] w2 := S3
    refine J.run 2 K49_5 [(2, .slice ra1 l.length rc1)] w2 (by kernel_rfl) ?_
    refine J.ret Tryd.f49 [.slice ra1 l.length rc1] Tryd.func49 ⟨by kernel_rfl, trivial⟩ ?_
    refine hR _ _ ?_
    exact ⟨_, _, rfl, S3.pick 0 rfl⟩

theorem hb25 : HasBody Tryd.prog 25 := fun _ _ => by kernel_rfl
noncomputable def K25_0 : List Item := adv 2 [] (bodyOf Tryd.f25)
noncomputable def K25_1 : List Item := adv 6 [] (popK (popK K25_0))
noncomputable def K25_2 : List Item := adv 3 [] (popK (popK K25_1))
noncomputable def K25_3 : List Item := adv 7 [false] K25_2
noncomputable def K25_4 : List Item := adv 4 [true] K25_3
noncomputable def K25_5 : List Item := adv 2 [] (popK K25_4)
noncomputable def K25_6 : List Item := adv 6 [false] K25_3
noncomputable def K25_7 : List Item := adv 1 [] (popK (popK K25_6))
noncomputable def K25_8 : List Item := adv 5 [] (popK (popK K25_7))
noncomputable def K25_9 : List Item := adv 5 [] (popK K25_8)
noncomputable def K25_10 : List Item := adv 5 [] K25_9
noncomputable def K25_11 : List Item := adv 6 [true] K25_10
noncomputable def K25_12 : List Item := adv 7 [] (popK (popK K25_11))
noncomputable def K25_13 : List Item := adv 12 [] (popK K25_12)
noncomputable def K25_14 : List Item := adv 1 [] K25_13
noncomputable def K25_15 : List Item := adv 2 [] (popK K25_14)
noncomputable def K25_16 : List Item := adv 4 [false] K25_15
noncomputable def K25_17 : List Item := adv 1 [] (popK K25_16)
noncomputable def K25_18 : List Item := adv 1 [] (popK (popK K25_17))
noncomputable def K25_19 : List Item := adv 4 [] (popK K25_18)
noncomputable def K25_20 : List Item := adv 4 [true] K25_15
noncomputable def K25_21 : List Item := adv 2 [] (popK K25_20)
noncomputable def K25_22 : List Item := adv 8 [true] K25_13
noncomputable def K25_23 : List Item := adv 2 [] (popK K25_22)
noncomputable def K25_24 : List Item := adv 4 [false] K25_10
noncomputable def K25_25 : List Item := adv 2 [] (popK (popK K25_24))
noncomputable def K25_26 : List Item := adv 4 [true] K25_2
noncomputable def K25_27 : List Item := adv 2 [] (popK K25_26)
set_option maxRecDepth 20000 in
set_option maxHeartbeats 20000000 in
theorem cscale_any (c : Crv) (n d : Int) (w : World) (hc : crvQ w c) (hn : (-9223372036854775808) ≤ n ∧ n ≤ 9223372036854775807) (hd : (-9223372036854775808) ≤ d ∧ d ≤ 9223372036854775807) : Ret Tryd.prog 25 #[.agg #[.slice c.gX_a c.gX_n c.gX_c, .slice c.gY_a c.gY_n c.gY_c], .int .i64 n, .int .i64 d] w (fun v w' => ∃ a_ c_ b_ d_, v = .tuple #[.agg #[.slice a_ (scX c n d).length c_, .slice b_ (scY c n d).length d_], .int .i64 (scE c n d)] ∧ Sep w [rowOf encI b_ d_ 3 1 (scY c n d), rowOf encI a_ c_ 3 1 (scX c n d)] w') := by
  have S0 := Sep.refl w
  refine Ret.named fun R hR => ?_
  refine Ret.of_J (N := 55) [(0, .agg #[.slice c.gX_a c.gX_n c.gX_c, .slice c.gY_a c.gY_n c.gY_c]), (1, .int .i64 n), (2, .int .i64 d)] Tryd.func25 rfl rfl (Nat.le_of_ble_eq_true (by kernel_rfl)) (by kernel_rfl) ?_
  obtain ⟨q1, q2, q3, q4, q5, q6, _⟩ := id hc
  have ql1 := q2.len_eq
  have ql2 := q5.len_eq
  refine J.run 2 K25_0 [(0, .agg #[.slice c.gX_a c.gX_n c.gX_c, .slice c.gY_a c.gY_n c.gY_c]), (1, .int .i64 n), (2, .int .i64 d)] w (by kernel_rfl) ?_
  refine J.new S0 3 [.slice c.gX_a c.gX_n c.gX_c, .slice c.gY_a c.gY_n c.gY_c] 24 (by kernel_rfl) ?_
  intro b1 w1 S1
  refine J.new S1 6 [.slice none 0 0, .slice none 0 0] 24 (by kernel_rfl) ?_
  intro b2 w2 S2
  refine J.run 6 K25_1 [(6, .pointer (some ⟨b2, 0, none⟩)), (3, .pointer (some ⟨b1, 0, none⟩)), (1, .int .i64 n), (2, .int .i64 d)] w2 (by kernel_rfl) ?_
  refine J.ok (OK.ldBox S2 1 14 24 0 (.agg #[.slice c.gX_a c.gX_n c.gX_c, .slice c.gY_a c.gY_n c.gY_c]) (by kernel_rfl) rfl (by kernel_rfl)) ?_
  refine J.callF 15 16 #[.agg #[.slice c.gX_a c.gX_n c.gX_c, .slice c.gY_a c.gY_n c.gY_c]] hb16 (by kernel_rfl) (cvalid_any c _ (crvQ_sep hc S2)) ?_
  rintro _ w3 ⟨rfl, T1⟩
  have S3 : Sep w [box b2 [.slice none 0 0, .slice none 0 0] 24, box b1 [.slice c.gX_a c.gX_n c.gX_c, .slice c.gY_a c.gY_n c.gY_c] 24] w3 := S2.trans T1
  clear T1 S2
  refine J.run 3 K25_2 [(13, .bool (!(validV c))), (6, .pointer (some ⟨b2, 0, none⟩)), (3, .pointer (some ⟨b1, 0, none⟩)), (1, .int .i64 n), (2, .int .i64 d)] w3 (by kernel_rfl) ?_
  rcases Bool.eq_false_or_eq_true (validV c) with fk1 | fk1
  · skip
    refine J.head (.bool false) (congrArg Value.bool (by rw [fk1]; rfl)) ?_
    have hv := fk1
    obtain ⟨hv1, hv2, hv3⟩ := validV_facts hv
    obtain ⟨hx1, hx2, hx3⟩ := axis_facts hv2
    have hX : c.gX_l.length = c.gX_n := by omega
    have hY : c.gY_l.length = c.gX_n := by omega
    have hxm := axis_mono hv2 (show 0 < ((c.gX_n : Int) - 1).toNat by omega) (by omega)
    have hx0 := hx2 0 (by omega)
    have hxl := hx2 ((c.gX_n : Int) - 1).toNat (by omega)
    have hdv : dirV c = dirL c.gY_l := by unfold dirV; rw [hv]; rfl
    have hyn : ((c.gY_n : Int) - 1).toNat = ((c.gX_n : Int) - 1).toNat := by omega
    refine J.run 7 K25_3 [(18, .bool (d == 0)), (6, .pointer (some ⟨b2, 0, none⟩)), (3, .pointer (some ⟨b1, 0, none⟩)), (1, .int .i64 n), (2, .int .i64 d)] w3 (by kernel_rfl) ?_
    by_cases fk2 : d = 0
    · skip
      refine J.head (.bool true) (congrArg Value.bool (beq_iff_eq.2 fk2)) ?_
      refine J.run 4 K25_4 [(21, .agg #[.slice none 0 0, .slice none 0 0]), (6, .pointer (some ⟨b2, 0, none⟩))] w3 (by kernel_rfl) ?_
      refine J.stBox S3 0 24 0 (.agg #[.slice none 0 0, .slice none 0 0]) [.slice none 0 0, .slice none 0 0] [box b2 [.slice none 0 0, .slice none 0 0] 24, box b1 [.slice c.gX_a c.gX_n c.gX_c, .slice c.gY_a c.gY_n c.gY_c] 24] (by kernel_rfl) rfl (by kernel_rfl) (by kernel_rfl) rfl ?_
      intro w4 S4
      refine J.run 2 K25_5 [(7, .int .i64 10), (6, .pointer (some ⟨b2, 0, none⟩))] w4 (by kernel_rfl) ?_
      refine J.ret Tryd.f25 [.agg #[.slice none 0 0, .slice none 0 0], .int .i64 10] Tryd.func25 ⟨⟨⟨b2, 0, none⟩, by kernel_rfl, ldV_run (S4.nth 0 rfl) (by kernel_rfl)⟩, by kernel_rfl, trivial⟩ ?_
      refine hR _ _ ?_
      obtain ⟨e1, e2, e3⟩ := sc_bad (c := c) (n := n) (d := d) (sc_ten hv (by omega)) (by decide)
      refine ⟨none, 0, none, 0, ?_, ?_⟩
      · rw [e1, e2, e3]; rfl
      · rw [e2, e3]; exact (S4.nil.nilRow 3 1).nilRow 3 1
    · skip
      refine J.head (.bool false) (congrArg Value.bool (beq_eq_false_iff_ne.2 fk2)) ?_
      refine J.run 6 K25_6 [(22, .pointer (some ⟨b1, 0, none⟩)), (6, .pointer (some ⟨b2, 0, none⟩)), (3, .pointer (some ⟨b1, 0, none⟩)), (1, .int .i64 n), (2, .int .i64 d)] w3 (by kernel_rfl) ?_
      refine J.ok (OK.ldBox S3 1 23 22 0 (.slice c.gX_a c.gX_n c.gX_c) (by kernel_rfl) rfl (by kernel_rfl)) ?_
      refine J.callF 24 49 #[.slice c.gX_a c.gX_n c.gX_c] hb49 (by kernel_rfl) (clone_any c.gX_a c.gX_n c.gX_c c.gX_l _ (q2.sep S3) (by omega) (by omega)) ?_
      rintro _ w5 ⟨ra1, rc1, rfl, T2⟩
      have S5 : Sep w [rowOf encI ra1 rc1 3 1 c.gX_l, box b2 [.slice none 0 0, .slice none 0 0] 24, box b1 [.slice c.gX_a c.gX_n c.gX_c, .slice c.gY_a c.gY_n c.gY_c] 24] w5 := S3.trans T2
      clear T2 S3
      refine J.run 1 K25_7 [(25, .agg #[.slice ra1 c.gX_l.length rc1, .slice none 0 0]), (6, .pointer (some ⟨b2, 0, none⟩)), (3, .pointer (some ⟨b1, 0, none⟩)), (1, .int .i64 n), (2, .int .i64 d)] w5 (by kernel_rfl) ?_
      refine J.new S5 8 [.slice none 0 0, .slice none 0 0] 24 (by kernel_rfl) ?_
      intro b3 w6 S6
      refine J.stBox S6 0 24 0 (.agg #[.slice ra1 c.gX_l.length rc1, .slice none 0 0]) [.slice ra1 c.gX_l.length rc1, .slice none 0 0] [box b3 [.slice ra1 c.gX_l.length rc1, .slice none 0 0] 24, rowOf encI ra1 rc1 3 1 c.gX_l, box b2 [.slice none 0 0, .slice none 0 0] 24, box b1 [.slice c.gX_a c.gX_n c.gX_c, .slice c.gY_a c.gY_n c.gY_c] 24] (by kernel_rfl) rfl (by kernel_rfl) (by kernel_rfl) rfl ?_
      intro w7 S7
      refine J.run 5 K25_8 [(26, .pointer (some ⟨b1, 1, none⟩)), (8, .pointer (some ⟨b3, 0, none⟩)), (6, .pointer (some ⟨b2, 0, none⟩)), (1, .int .i64 n), (2, .int .i64 d)] w7 (by kernel_rfl) ?_
      refine J.ok (OK.ldBox S7 3 27 22 1 (.slice c.gY_a c.gY_n c.gY_c) (by kernel_rfl) rfl (by kernel_rfl)) ?_
      refine J.run 5 K25_9 [(29, .int .i64 0), (28, .int .i64 (c.gY_n : Int)), (27, .slice c.gY_a c.gY_n c.gY_c), (8, .pointer (some ⟨b3, 0, none⟩)), (6, .pointer (some ⟨b2, 0, none⟩)), (1, .int .i64 n), (2, .int .i64 d)] w7 (by kernel_rfl) ?_
      have S8 : Sep w [rowOf encI none 0 3 1 ([]), box b3 [.slice ra1 c.gX_l.length rc1, .slice none 0 0] 24, rowOf encI ra1 rc1 3 1 c.gX_l, box b2 [.slice none 0 0, .slice none 0 0] 24, box b1 [.slice c.gX_a c.gX_n c.gX_c, .slice c.gY_a c.gY_n c.gY_c] 24] w7 := S7.nilRow 3 1
      have L25_1 : ∀ (mm_ : Nat) (rb : Option Addr) (rd : Nat) (ys : List Int) (i : Int) (w8 : World), (0 ≤ i) → (i ≤ (c.gX_n : Int)) → (ys = (c.gY_l.map fun v => mdX v n d 3).take (i).toNat) → (∀ j, j < (i).toNat → okS n d (c.gY_l.getD j 0) = true) → Sep w [rowOf encI rb rd 3 1 ys, box b3 [.slice ra1 c.gX_l.length rc1, .slice rb ys.length rd] 24, rowOf encI ra1 rc1 3 1 c.gX_l, box b2 [.slice none 0 0, .slice none 0 0] 24, box b1 [.slice c.gX_a c.gX_n c.gX_c, .slice c.gY_a c.gY_n c.gY_c] 24] w8 → ((c.gX_n : Int) - i).toNat = mm_ → J Tryd.prog 25 55 R K25_9 [(29, .int .i64 i), (28, .int .i64 (c.gY_n : Int)), (27, .slice c.gY_a c.gY_n c.gY_c), (8, .pointer (some ⟨b3, 0, none⟩)), (6, .pointer (some ⟨b2, 0, none⟩)), (1, .int .i64 n), (2, .int .i64 d)] w8 := by
        intro mm1
        induction mm1 using Nat.strongRecOn with
        | _ mm1 ih1 =>
        intro rb rd ys i w8 h0 h1 hys hq S9 hm1
        have hlsy := cv_len h0 (by omega) hys
        refine J.run 5 K25_10 [(30, .bool (decide (i < (c.gY_n : Int)))), (29, .int .i64 i), (28, .int .i64 (c.gY_n : Int)), (27, .slice c.gY_a c.gY_n c.gY_c), (8, .pointer (some ⟨b3, 0, none⟩)), (6, .pointer (some ⟨b2, 0, none⟩)), (1, .int .i64 n), (2, .int .i64 d)] w8 (by kernel_rfl) ?_
        by_cases fk3 : i < (c.gY_n : Int)
        · skip
          refine J.head (.bool true) (congrArg Value.bool (decide_eq_true fk3)) ?_
          refine J.run 6 K25_11 [(29, .int .i64 i), (28, .int .i64 (c.gY_n : Int)), (27, .slice c.gY_a c.gY_n c.gY_c), (8, .pointer (some ⟨b3, 0, none⟩)), (6, .pointer (some ⟨b2, 0, none⟩)), (1, .int .i64 n), (2, .int .i64 d)] w8 (by kernel_rfl) ?_
          obtain ⟨p1, hp1, hc1⟩ := q5.at 0 (i).toNat (by omega)
          have hel1 := getD_Q q6 0 (n := (i).toNat) (by have := q5.len_eq; omega)
          refine J.ok (OK.index 31 22 1 c.gY_a p1 c.gY_n (i).toNat i (p1.add (i).toNat) (by kernel_rfl) (by kernel_rfl) hp1 (by omega) (by omega) (by rw [Nat.mul_one])) ?_
          refine J.ok (OK.ldCell 32 3 (p1.add (i).toNat) (.int .i64 (c.gY_l.getD (i).toNat 0)) (by kernel_rfl) (by kernel_rfl) (S9.cell hc1)) ?_
          refine J.run 7 K25_12 [(36, .int .i64 d), (35, .int .i64 n), (34, .int .i64 (c.gY_l.getD (i).toNat 0)), (29, .int .i64 i), (28, .int .i64 (c.gY_n : Int)), (27, .slice c.gY_a c.gY_n c.gY_c), (8, .pointer (some ⟨b3, 0, none⟩)), (6, .pointer (some ⟨b2, 0, none⟩)), (1, .int .i64 n), (2, .int .i64 d)] w8 (by kernel_rfl) ?_
          refine J.callF 37 50 #[.int .i64 (c.gY_l.getD (i).toNat 0), .int .i64 n, .int .i64 d, .int .i64 3] hb50 (by kernel_rfl) (muldiv_any (c.gY_l.getD (i).toNat 0) n d 3 _ (by omega) (by omega) (by omega)) ?_
          rintro _ w9 ⟨rfl, T3⟩
          have S10 : Sep w [rowOf encI rb rd 3 1 ys, box b3 [.slice ra1 c.gX_l.length rc1, .slice rb ys.length rd] 24, rowOf encI ra1 rc1 3 1 c.gX_l, box b2 [.slice none 0 0, .slice none 0 0] 24, box b1 [.slice c.gX_a c.gX_n c.gX_c, .slice c.gY_a c.gY_n c.gY_c] 24] w9 := S9.trans T3
          clear T3 S9
          have := mdX_bounds (c.gY_l.getD (i).toNat 0) n d 3
          refine J.run 12 K25_13 [(42, .bool ((mdE (c.gY_l.getD (i).toNat 0) n d 3) != 0)), (11, .int .i64 (mdX (c.gY_l.getD (i).toNat 0) n d 3)), (29, .int .i64 i), (28, .int .i64 (c.gY_n : Int)), (27, .slice c.gY_a c.gY_n c.gY_c), (8, .pointer (some ⟨b3, 0, none⟩)), (6, .pointer (some ⟨b2, 0, none⟩)), (1, .int .i64 n), (2, .int .i64 d)] w9 (by kernel_rfl) ?_
          by_cases fk4 : (mdE (c.gY_l.getD (i).toNat 0) n d 3) = 0
          · skip
            refine J.head (.bool false) (congrArg Value.bool (bne_eq_false_iff_eq.2 fk4)) ?_
            refine J.run 1 K25_14 [(43, .int .i64 (mdX (c.gY_l.getD (i).toNat 0) n d 3)), (42, .bool false), (11, .int .i64 (mdX (c.gY_l.getD (i).toNat 0) n d 3)), (29, .int .i64 i), (28, .int .i64 (c.gY_n : Int)), (27, .slice c.gY_a c.gY_n c.gY_c), (8, .pointer (some ⟨b3, 0, none⟩)), (6, .pointer (some ⟨b2, 0, none⟩)), (1, .int .i64 n), (2, .int .i64 d)] w9 (by kernel_rfl) ?_
            refine J.callF 44 42 #[.int .i64 (mdX (c.gY_l.getD (i).toNat 0) n d 3)] hb42 (by kernel_rfl) (cfar_any (mdX (c.gY_l.getD (i).toNat 0) n d 3) _) ?_
            rintro _ w10 ⟨rfl, T4⟩
            have S11 : Sep w [rowOf encI rb rd 3 1 ys, box b3 [.slice ra1 c.gX_l.length rc1, .slice rb ys.length rd] 24, rowOf encI ra1 rc1 3 1 c.gX_l, box b2 [.slice none 0 0, .slice none 0 0] 24, box b1 [.slice c.gX_a c.gX_n c.gX_c, .slice c.gY_a c.gY_n c.gY_c] 24] w10 := S10.trans T4
            clear T4 S10
            refine J.run 2 K25_15 [(45, .bool (!(elB (mdX (c.gY_l.getD (i).toNat 0) n d 3)))), (11, .int .i64 (mdX (c.gY_l.getD (i).toNat 0) n d 3)), (29, .int .i64 i), (28, .int .i64 (c.gY_n : Int)), (27, .slice c.gY_a c.gY_n c.gY_c), (8, .pointer (some ⟨b3, 0, none⟩)), (6, .pointer (some ⟨b2, 0, none⟩)), (1, .int .i64 n), (2, .int .i64 d)] w10 (by kernel_rfl) ?_
            rcases Bool.eq_false_or_eq_true (elB (mdX (c.gY_l.getD (i).toNat 0) n d 3)) with fk5 | fk5
            · skip
              refine J.head (.bool false) (congrArg Value.bool (by rw [fk5]; rfl)) ?_
              refine J.run 4 K25_16 [(47, .pointer (some ⟨b3, 1, none⟩)), (11, .int .i64 (mdX (c.gY_l.getD (i).toNat 0) n d 3)), (29, .int .i64 i), (28, .int .i64 (c.gY_n : Int)), (27, .slice c.gY_a c.gY_n c.gY_c), (8, .pointer (some ⟨b3, 0, none⟩)), (6, .pointer (some ⟨b2, 0, none⟩)), (1, .int .i64 n), (2, .int .i64 d)] w10 (by kernel_rfl) ?_
              refine J.ok (OK.ldBox S11 1 48 22 1 (.slice rb ys.length rd) (by kernel_rfl) rfl (by kernel_rfl)) ?_
              refine J.run 1 K25_17 [(49, .int .i64 (mdX (c.gY_l.getD (i).toNat 0) n d 3)), (48, .slice rb ys.length rd), (29, .int .i64 i), (28, .int .i64 (c.gY_n : Int)), (27, .slice c.gY_a c.gY_n c.gY_c), (8, .pointer (some ⟨b3, 0, none⟩)), (6, .pointer (some ⟨b2, 0, none⟩)), (1, .int .i64 n), (2, .int .i64 d)] w10 (by kernel_rfl) ?_
              refine J.newSlice S11 50 1 [.int .i64 (mdX (c.gY_l.getD (i).toNat 0) n d 3)] 3 (by kernel_rfl) ?_
              intro b4 w11 S12
              refine J.append encI S12 1 ys (mdX (c.gY_l.getD (i).toNat 0) n d 3) 51 22 (.int .i64 0) 8 ⟨b4, 0, none⟩ 1 rfl (by kernel_rfl) (by kernel_rfl) (by kernel_rfl) (by kernel_rfl) (by decide) (box_cells (S12.nth 0 rfl)) (by kernel_rfl) (by kernel_rfl) (⟨by omega, by omega⟩) ?_
              intro ra2 rc2 w12 S13
              replace S13 : Sep w [box b4 [.int .i64 (mdX (c.gY_l.getD (i).toNat 0) n d 3)] 3, rowOf encI ra2 rc2 3 1 (ys ++ [mdX (c.gY_l.getD (i).toNat 0) n d 3]), box b3 [.slice ra1 c.gX_l.length rc1, .slice rb ys.length rd] 24, rowOf encI ra1 rc1 3 1 c.gX_l, box b2 [.slice none 0 0, .slice none 0 0] 24, box b1 [.slice c.gX_a c.gX_n c.gX_c, .slice c.gY_a c.gY_n c.gY_c] 24] w12 := S13
              have S14 : Sep w [rowOf encI ra2 rc2 3 1 (ys ++ [mdX (c.gY_l.getD (i).toNat 0) n d 3]), box b3 [.slice ra1 c.gX_l.length rc1, .slice rb ys.length rd] 24, rowOf encI ra1 rc1 3 1 c.gX_l, box b2 [.slice none 0 0, .slice none 0 0] 24, box b1 [.slice c.gX_a c.gX_n c.gX_c, .slice c.gY_a c.gY_n c.gY_c] 24] w12 := S13.erase 0
              clear S13
              refine J.run 1 K25_18 [(52, .pointer (some ⟨b3, 1, none⟩)), (51, .slice ra2 ((ys ++ [mdX (c.gY_l.getD (i).toNat 0) n d 3]).length) rc2), (29, .int .i64 i), (28, .int .i64 (c.gY_n : Int)), (27, .slice c.gY_a c.gY_n c.gY_c), (8, .pointer (some ⟨b3, 0, none⟩)), (6, .pointer (some ⟨b2, 0, none⟩)), (1, .int .i64 n), (2, .int .i64 d)] w12 (by kernel_rfl) ?_
              refine J.stBox S14 1 22 1 (.slice ra2 ((ys ++ [mdX (c.gY_l.getD (i).toNat 0) n d 3]).length) rc2) [.slice ra1 c.gX_l.length rc1, .slice ra2 ((ys ++ [mdX (c.gY_l.getD (i).toNat 0) n d 3]).length) rc2] [rowOf encI ra2 rc2 3 1 (ys ++ [mdX (c.gY_l.getD (i).toNat 0) n d 3]), box b3 [.slice ra1 c.gX_l.length rc1, .slice ra2 ((ys ++ [mdX (c.gY_l.getD (i).toNat 0) n d 3]).length) rc2] 24, rowOf encI ra1 rc1 3 1 c.gX_l, box b2 [.slice none 0 0, .slice none 0 0] 24, box b1 [.slice c.gX_a c.gX_n c.gX_c, .slice c.gY_a c.gY_n c.gY_c] 24] (by kernel_rfl) rfl (by kernel_rfl) (by kernel_rfl) rfl ?_
              intro w13 S15
              refine J.run 4 K25_19 [(53, .int .i64 (IntKind.wrap .i64 (i + 1))), (28, .int .i64 (c.gY_n : Int)), (27, .slice c.gY_a c.gY_n c.gY_c), (8, .pointer (some ⟨b3, 0, none⟩)), (6, .pointer (some ⟨b2, 0, none⟩)), (1, .int .i64 n), (2, .int .i64 d)] w13 (by kernel_rfl) ?_
              refine J.head (.int .i64 (i + 1)) (congrArg (Value.int .i64) (IntWalk.i64_in _ (by omega))) ?_
              refine J.run 3 K25_9 [(29, .int .i64 (i + 1)), (28, .int .i64 (c.gY_n : Int)), (27, .slice c.gY_a c.gY_n c.gY_c), (8, .pointer (some ⟨b3, 0, none⟩)), (6, .pointer (some ⟨b2, 0, none⟩)), (1, .int .i64 n), (2, .int .i64 d)] w13 (by kernel_rfl) ?_
              refine J.run 0 K25_9 [(29, .int .i64 (i + 1)), (28, .int .i64 (c.gY_n : Int)), (27, .slice c.gY_a c.gY_n c.gY_c), (8, .pointer (some ⟨b3, 0, none⟩)), (6, .pointer (some ⟨b2, 0, none⟩)), (1, .int .i64 n), (2, .int .i64 d)] w13 (by kernel_rfl) ?_
              exact ih1 _ (show ((c.gX_n : Int) - (i + 1)).toNat < mm1 from by omega) ra2 rc2 (ys ++ [mdX (c.gY_l.getD (i).toNat 0) n d 3]) (i + 1) w13 (by omega) (by omega) (cv_step h0 (by omega) hys) (all_step (q := fun j => okS n d (c.gY_l.getD j 0) = true) h0 hq (okS_yes (by omega) fk5)) S15 rfl
            · skip
              refine J.head (.bool true) (congrArg Value.bool (by rw [fk5]; rfl)) ?_
              refine J.run 4 K25_20 [(46, .agg #[.slice none 0 0, .slice none 0 0]), (6, .pointer (some ⟨b2, 0, none⟩))] w10 (by kernel_rfl) ?_
              refine J.stBox S11 3 24 0 (.agg #[.slice none 0 0, .slice none 0 0]) [.slice none 0 0, .slice none 0 0] [rowOf encI rb rd 3 1 ys, box b3 [.slice ra1 c.gX_l.length rc1, .slice rb ys.length rd] 24, rowOf encI ra1 rc1 3 1 c.gX_l, box b2 [.slice none 0 0, .slice none 0 0] 24, box b1 [.slice c.gX_a c.gX_n c.gX_c, .slice c.gY_a c.gY_n c.gY_c] 24] (by kernel_rfl) rfl (by kernel_rfl) (by kernel_rfl) rfl ?_
              intro w14 S16
              refine J.run 2 K25_21 [(7, .int .i64 2), (6, .pointer (some ⟨b2, 0, none⟩))] w14 (by kernel_rfl) ?_
              refine J.ret Tryd.f25 [.agg #[.slice none 0 0, .slice none 0 0], .int .i64 2] Tryd.func25 ⟨⟨⟨b2, 0, none⟩, by kernel_rfl, ldV_run (S16.nth 3 rfl) (by kernel_rfl)⟩, by kernel_rfl, trivial⟩ ?_
              refine hR _ _ ?_
              obtain ⟨e1, e2, e3⟩ := sc_bad (c := c) (n := n) (d := d) (sc_two (j := i) hv (by omega) (by omega) (by omega) (by first | exact .inr fk5 | exact .inl (by omega))) (by decide)
              refine ⟨none, 0, none, 0, ?_, ?_⟩
              · rw [e1, e2, e3]; rfl
              · rw [e2, e3]; exact (S16.nil.nilRow 3 1).nilRow 3 1
          · skip
            refine J.head (.bool true) (congrArg Value.bool (bne_iff_ne.2 fk4)) ?_
            refine J.run 8 K25_22 [(46, .agg #[.slice none 0 0, .slice none 0 0]), (6, .pointer (some ⟨b2, 0, none⟩))] w9 (by kernel_rfl) ?_
            refine J.stBox S10 3 24 0 (.agg #[.slice none 0 0, .slice none 0 0]) [.slice none 0 0, .slice none 0 0] [rowOf encI rb rd 3 1 ys, box b3 [.slice ra1 c.gX_l.length rc1, .slice rb ys.length rd] 24, rowOf encI ra1 rc1 3 1 c.gX_l, box b2 [.slice none 0 0, .slice none 0 0] 24, box b1 [.slice c.gX_a c.gX_n c.gX_c, .slice c.gY_a c.gY_n c.gY_c] 24] (by kernel_rfl) rfl (by kernel_rfl) (by kernel_rfl) rfl ?_
            intro w15 S17
            refine J.run 2 K25_23 [(7, .int .i64 2), (6, .pointer (some ⟨b2, 0, none⟩))] w15 (by kernel_rfl) ?_
            refine J.ret Tryd.f25 [.agg #[.slice none 0 0, .slice none 0 0], .int .i64 2] Tryd.func25 ⟨⟨⟨b2, 0, none⟩, by kernel_rfl, ldV_run (S17.nth 3 rfl) (by kernel_rfl)⟩, by kernel_rfl, trivial⟩ ?_
            refine hR _ _ ?_
            obtain ⟨e1, e2, e3⟩ := sc_bad (c := c) (n := n) (d := d) (sc_two (j := i) hv (by omega) (by omega) (by omega) (by first | exact .inr fk4 | exact .inl (by omega))) (by decide)
            refine ⟨none, 0, none, 0, ?_, ?_⟩
            · rw [e1, e2, e3]; rfl
            · rw [e2, e3]; exact (S17.nil.nilRow 3 1).nilRow 3 1
        · skip
          refine J.head (.bool false) (congrArg Value.bool (decide_eq_false fk3)) ?_
          refine J.run 4 K25_24 [(8, .pointer (some ⟨b3, 0, none⟩)), (6, .pointer (some ⟨b2, 0, none⟩))] w8 (by kernel_rfl) ?_
          refine J.ok (OK.ldBox S9 1 54 24 0 (.agg #[.slice ra1 c.gX_l.length rc1, .slice rb ys.length rd]) (by kernel_rfl) rfl (by kernel_rfl)) ?_
          refine J.stBox S9 3 24 0 (.agg #[.slice ra1 c.gX_l.length rc1, .slice rb ys.length rd]) [.slice ra1 c.gX_l.length rc1, .slice rb ys.length rd] [rowOf encI rb rd 3 1 ys, box b3 [.slice ra1 c.gX_l.length rc1, .slice rb ys.length rd] 24, rowOf encI ra1 rc1 3 1 c.gX_l, box b2 [.slice ra1 c.gX_l.length rc1, .slice rb ys.length rd] 24, box b1 [.slice c.gX_a c.gX_n c.gX_c, .slice c.gY_a c.gY_n c.gY_c] 24] (by kernel_rfl) rfl (by kernel_rfl) (by kernel_rfl) rfl ?_
          intro w16 S18
          refine J.run 2 K25_25 [(7, .int .i64 0), (6, .pointer (some ⟨b2, 0, none⟩))] w16 (by kernel_rfl) ?_
          refine J.ret Tryd.f25 [.agg #[.slice ra1 c.gX_l.length rc1, .slice rb ys.length rd], .int .i64 0] Tryd.func25 ⟨⟨⟨b2, 0, none⟩, by kernel_rfl, ldV_run (S18.nth 3 rfl) (by kernel_rfl)⟩, by kernel_rfl, trivial⟩ ?_
          refine hR _ _ ?_
          have e_ := cv_end (by omega) hys
          subst e_
          obtain ⟨e1, e2, e3⟩ := sc_yes (c := c) (n := n) (d := d) (i := i) hv (by omega) (by omega) hq
          refine ⟨ra1, rc1, rb, rd, ?_, ?_⟩
          · rw [e1, e2, e3]; first | rfl | simp
          · rw [e2, e3]; exact S18.two 2 1 rfl rfl (by decide)
      exact L25_1 _ none 0 ([]) 0 w7 (by omega) (by omega) (rfl) (by intro j hj; simp at hj) S8 rfl
  · skip
    refine J.head (.bool true) (congrArg Value.bool (by rw [fk1]; rfl)) ?_
    refine J.run 4 K25_26 [(17, .agg #[.slice none 0 0, .slice none 0 0]), (6, .pointer (some ⟨b2, 0, none⟩))] w3 (by kernel_rfl) ?_
    refine J.stBox S3 0 24 0 (.agg #[.slice none 0 0, .slice none 0 0]) [.slice none 0 0, .slice none 0 0] [box b2 [.slice none 0 0, .slice none 0 0] 24, box b1 [.slice c.gX_a c.gX_n c.gX_c, .slice c.gY_a c.gY_n c.gY_c] 24] (by kernel_rfl) rfl (by kernel_rfl) (by kernel_rfl) rfl ?_
    intro w17 S19
    refine J.run 2 K25_27 [(7, .int .i64 1), (6, .pointer (some ⟨b2, 0, none⟩))] w17 (by kernel_rfl) ?_
    refine J.ret Tryd.f25 [.agg #[.slice none 0 0, .slice none 0 0], .int .i64 1] Tryd.func25 ⟨⟨⟨b2, 0, none⟩, by kernel_rfl, ldV_run (S19.nth 0 rfl) (by kernel_rfl)⟩, by kernel_rfl, trivial⟩ ?_
    refine hR _ _ ?_
    obtain ⟨e1, e2, e3⟩ := sc_bad (c := c) (n := n) (d := d) (sc_one fk1) (by decide)
    refine ⟨none, 0, none, 0, ?_, ?_⟩
    · rw [e1, e2, e3]; rfl
    · rw [e2, e3]; exact (S19.nil.nilRow 3 1).nilRow 3 1

end Go.Proofs.YtdilhoibcbihlaaDoor

