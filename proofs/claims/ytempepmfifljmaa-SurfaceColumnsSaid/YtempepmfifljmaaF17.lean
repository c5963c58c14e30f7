/- Walks of functions of this seat, printed by a program over the engine. Conditions: as each theorem says. -/
import Derived.Test.YtempepmfifljmaaF16
namespace Go.Proofs.Ytempepmfifljmaa
open Go.Eng Go.RowKit
set_option linter.unusedSimpArgs false
set_option linter.unusedVariables false
theorem hb25 : HasBody Try.prog 25 := fun _ _ => by kernel_rfl
noncomputable def K25_0 : List Item := adv 2 [] (bodyOf Try.f25)
noncomputable def K25_1 : List Item := adv 5 [] (popK (popK K25_0))
noncomputable def K25_2 : List Item := adv 1 [] (popK K25_1)
noncomputable def K25_3 : List Item := adv 1 [] (popK (popK K25_2))
noncomputable def K25_4 : List Item := adv 1 [] K25_3
noncomputable def K25_5 : List Item := adv 1 [] (popK K25_4)
noncomputable def K25_6 : List Item := adv 3 [] (popK (popK K25_5))
noncomputable def K25_7 : List Item := adv 8 [] K25_3
set_option maxRecDepth 20000 in
set_option maxHeartbeats 20000000 in
theorem same_any (la : Option Addr) (na ca : Nat) (xa : List Int) (lb : Option Addr) (nb cb : Nat) (xb : List Int) (lc : Option Addr) (nc cc : Nat) (xc : List Int) (ld : Option Addr) (nd cd : Nat) (xd : List Int) (w : World) (ha : Ints w la na xa) (hb : Ints w lb nb xb) (hc : Ints w lc nc xc) (hd : Ints w ld nd xd) (hla : na ≤ 9223372036854775807) (hlb : nb ≤ 9223372036854775807) : Ret Try.prog 25 #[.agg #[.slice la na ca, .slice lb nb cb], .agg #[.slice lc nc cc, .slice ld nd cd]] w (fun v w' => v = .bool ((xa == xc) && (xb == xd)) ∧ Sep w [] w') := by
  have S0 := Sep.refl w
  refine Ret.named fun R hR => ?_
  refine Ret.of_J (N := 17) [(0, .agg #[.slice la na ca, .slice lb nb cb]), (1, .agg #[.slice lc nc cc, .slice ld nd cd])] Try.func25 rfl rfl (Nat.le_of_ble_eq_true (by kernel_rfl)) (by kernel_rfl) ?_
  refine J.run 2 K25_0 [(0, .agg #[.slice la na ca, .slice lb nb cb]), (1, .agg #[.slice lc nc cc, .slice ld nd cd])] w (by kernel_rfl) ?_
  refine J.new S0 2 [.slice la na ca, .slice lb nb cb] 40 (by kernel_rfl) ?_
  intro b1 w1 S1
  refine J.new S1 3 [.slice lc nc cc, .slice ld nd cd] 40 (by kernel_rfl) ?_
  intro b2 w2 S2
  refine J.run 5 K25_1 [(5, .pointer (some ⟨b1, 0, none⟩)), (3, .pointer (some ⟨b2, 0, none⟩)), (2, .pointer (some ⟨b1, 0, none⟩))] w2 (by kernel_rfl) ?_
  refine J.ok (OK.ldBox S2 1 6 22 0 (.slice la na ca) (by kernel_rfl) rfl (by kernel_rfl)) ?_
  refine J.run 1 K25_2 [(7, .pointer (some ⟨b2, 0, none⟩)), (6, .slice la na ca), (3, .pointer (some ⟨b2, 0, none⟩)), (2, .pointer (some ⟨b1, 0, none⟩))] w2 (by kernel_rfl) ?_
  refine J.ok (OK.ldBox S2 0 8 22 0 (.slice lc nc cc) (by kernel_rfl) rfl (by kernel_rfl)) ?_
  refine J.callF 9 30 #[.slice la na ca, .slice lc nc cc] hb30 (by kernel_rfl) (equal_any la na ca xa lc nc cc xc _ (ha.sep S2) (hc.sep S2) (by first | omega | (simp; omega))) ?_
  rintro _ w3 ⟨rfl, T1⟩
  have S3 : Sep w [box b2 [.slice lc nc cc, .slice ld nd cd] 40, box b1 [.slice la na ca, .slice lb nb cb] 40] w3 := S2.trans T1
  clear T1 S2
  refine J.run 1 K25_3 [(10, .bool (xa == xc)), (3, .pointer (some ⟨b2, 0, none⟩)), (2, .pointer (some ⟨b1, 0, none⟩))] w3 (by kernel_rfl) ?_
  rcases Bool.eq_false_or_eq_true (xa == xc) with fk1 | fk1
  · skip
    refine J.head (.bool true) (congrArg Value.bool fk1) ?_
    refine J.run 1 K25_4 [(11, .pointer (some ⟨b1, 1, none⟩)), (10, .bool true), (3, .pointer (some ⟨b2, 0, none⟩))] w3 (by kernel_rfl) ?_
    refine J.ok (OK.ldBox S3 1 12 22 1 (.slice lb nb cb) (by kernel_rfl) rfl (by kernel_rfl)) ?_
    refine J.run 1 K25_5 [(13, .pointer (some ⟨b2, 1, none⟩)), (12, .slice lb nb cb), (10, .bool true)] w3 (by kernel_rfl) ?_
    refine J.ok (OK.ldBox S3 0 14 22 1 (.slice ld nd cd) (by kernel_rfl) rfl (by kernel_rfl)) ?_
    refine J.callF 15 30 #[.slice lb nb cb, .slice ld nd cd] hb30 (by kernel_rfl) (equal_any lb nb cb xb ld nd cd xd _ (hb.sep S3) (hd.sep S3) (by first | omega | (simp; omega))) ?_
    rintro _ w4 ⟨rfl, T2⟩
    have S4 : Sep w [box b2 [.slice lc nc cc, .slice ld nd cd] 40, box b1 [.slice la na ca, .slice lb nb cb] 40] w4 := S3.trans T2
    clear T2 S3
    refine J.run 3 K25_6 [(4, .bool (xb == xd))] w4 (by kernel_rfl) ?_
    refine J.ret Try.f25 [.bool (xb == xd)] Try.func25 ⟨by kernel_rfl, trivial⟩ ?_
    refine hR _ _ ?_
    exact ⟨congrArg Value.bool (by simp [fk1]), S4.nil⟩
  · skip
    refine J.head (.bool false) (congrArg Value.bool fk1) ?_
    refine J.run 8 K25_7 [(4, .bool false)] w3 (by kernel_rfl) ?_
    refine J.ret Try.f25 [.bool false] Try.func25 ⟨by kernel_rfl, trivial⟩ ?_
    refine hR _ _ ?_
    exact ⟨congrArg Value.bool (by simp [fk1]), S3.nil⟩

theorem hb7 : HasBody Try.prog 7 := fun _ _ => by kernel_rfl
noncomputable def K7_0 : List Item := adv 2 [] (bodyOf Try.f7)
noncomputable def K7_1 : List Item := adv 5 [] (popK K7_0)
noncomputable def K7_2 : List Item := adv 7 [false] (popK K7_1)
noncomputable def K7_3 : List Item := adv 2 [] (popK (popK K7_2))
noncomputable def K7_4 : List Item := adv 4 [false] K7_3
noncomputable def K7_5 : List Item := adv 1 [] (popK K7_4)
noncomputable def K7_6 : List Item := adv 3 [] (popK K7_5)
noncomputable def K7_7 : List Item := adv 4 [] (popK (popK K7_6))
noncomputable def K7_8 : List Item := adv 1 [] (popK K7_7)
noncomputable def K7_9 : List Item := adv 3 [] (popK K7_8)
noncomputable def K7_10 : List Item := adv 4 [] (popK (popK K7_9))
noncomputable def K7_11 : List Item := adv 1 [] (popK K7_10)
noncomputable def K7_12 : List Item := adv 3 [] (popK K7_11)
noncomputable def K7_13 : List Item := adv 4 [] (popK (popK K7_12))
noncomputable def K7_14 : List Item := adv 1 [] (popK K7_13)
noncomputable def K7_15 : List Item := adv 3 [] (popK K7_14)
noncomputable def K7_16 : List Item := adv 7 [] (popK (popK K7_15))
noncomputable def K7_17 : List Item := adv 4 [] K7_16
noncomputable def K7_18 : List Item := adv 2 [] K7_17
noncomputable def K7_19 : List Item := adv 2 [] (popK (popK (popK K7_18)))
noncomputable def K7_20 : List Item := adv 3 [] (popK (popK (popK K7_19)))
noncomputable def K7_21 : List Item := adv 5 [true] K7_3
set_option maxRecDepth 20000 in
set_option maxHeartbeats 20000000 in
theorem lawcurves_any (m : Mp) (x y : Int) (w : World) (hm : mpQ w m) : Ret Try.prog 7 #[.agg #[.slice m.gX_a m.gX_n m.gX_c, .slice m.gY_a m.gY_n m.gY_c, .slice m.gZ_a m.gZ_n m.gZ_c], .int .i64 x, .int .i64 y] w (fun v w' => v = .bool true ∧ Sep w [] w') := by
  have S0 := Sep.refl w
  refine Ret.named fun R hR => ?_
  refine Ret.of_J (N := 62) [(0, .agg #[.slice m.gX_a m.gX_n m.gX_c, .slice m.gY_a m.gY_n m.gY_c, .slice m.gZ_a m.gZ_n m.gZ_c]), (1, .int .i64 x), (2, .int .i64 y)] Try.func7 rfl rfl (Nat.le_of_ble_eq_true (by kernel_rfl)) (by kernel_rfl) ?_
  obtain ⟨q1, q2, q3, q4, q5, q6, q7, q8, q9, _⟩ := id hm
  have ql1 := q2.len_eq
  have ql2 := q5.len_eq
  have ql3 := q8.len_eq
  refine J.run 2 K7_0 [(0, .agg #[.slice m.gX_a m.gX_n m.gX_c, .slice m.gY_a m.gY_n m.gY_c, .slice m.gZ_a m.gZ_n m.gZ_c]), (1, .int .i64 x), (2, .int .i64 y)] w (by kernel_rfl) ?_
  refine J.new S0 3 [.slice m.gX_a m.gX_n m.gX_c, .slice m.gY_a m.gY_n m.gY_c, .slice m.gZ_a m.gZ_n m.gZ_c] 25 (by kernel_rfl) ?_
  intro b1 w1 S1
  refine J.run 5 K7_1 [(3, .pointer (some ⟨b1, 0, none⟩)), (1, .int .i64 x), (2, .int .i64 y)] w1 (by kernel_rfl) ?_
  refine J.callF 15 11 #[] hb11 (by kernel_rfl) (awake_any  _) ?_
  rintro _ w2 ⟨rfl, T1⟩
  have S2 : Sep w [box b1 [.slice m.gX_a m.gX_n m.gX_c, .slice m.gY_a m.gY_n m.gY_c, .slice m.gZ_a m.gZ_n m.gZ_c] 25] w2 := S1.trans T1
  clear T1 S1
  refine J.run 7 K7_2 [(3, .pointer (some ⟨b1, 0, none⟩)), (1, .int .i64 x), (2, .int .i64 y)] w2 (by kernel_rfl) ?_
  refine J.ok (OK.ldBox S2 0 17 25 0 (.agg #[.slice m.gX_a m.gX_n m.gX_c, .slice m.gY_a m.gY_n m.gY_c, .slice m.gZ_a m.gZ_n m.gZ_c]) (by kernel_rfl) rfl (by kernel_rfl)) ?_
  refine J.callF 18 12 #[.agg #[.slice m.gX_a m.gX_n m.gX_c, .slice m.gY_a m.gY_n m.gY_c, .slice m.gZ_a m.gZ_n m.gZ_c]] hb12 (by kernel_rfl) (few_any m _ (mpQ_sep hm S2)) ?_
  rintro _ w3 ⟨rfl, T2⟩
  have S3 : Sep w [box b1 [.slice m.gX_a m.gX_n m.gX_c, .slice m.gY_a m.gY_n m.gY_c, .slice m.gZ_a m.gZ_n m.gZ_c] 25] w3 := S2.trans T2
  clear T2 S2
  refine J.run 2 K7_3 [(19, .bool (!(fewB m))), (3, .pointer (some ⟨b1, 0, none⟩)), (1, .int .i64 x), (2, .int .i64 y)] w3 (by kernel_rfl) ?_
  rcases Bool.eq_false_or_eq_true (fewB m) with fk1 | fk1
  · skip
    refine J.head (.bool false) (congrArg Value.bool (by rw [fk1]; rfl)) ?_
    refine J.run 4 K7_4 [(3, .pointer (some ⟨b1, 0, none⟩)), (1, .int .i64 x), (2, .int .i64 y)] w3 (by kernel_rfl) ?_
    refine J.ok (OK.ldBox S3 0 21 25 0 (.agg #[.slice m.gX_a m.gX_n m.gX_c, .slice m.gY_a m.gY_n m.gY_c, .slice m.gZ_a m.gZ_n m.gZ_c]) (by kernel_rfl) rfl (by kernel_rfl)) ?_
    refine J.run 1 K7_5 [(22, .int .i64 x), (21, .agg #[.slice m.gX_a m.gX_n m.gX_c, .slice m.gY_a m.gY_n m.gY_c, .slice m.gZ_a m.gZ_n m.gZ_c]), (3, .pointer (some ⟨b1, 0, none⟩)), (1, .int .i64 x), (2, .int .i64 y)] w3 (by kernel_rfl) ?_
    refine J.callF 23 21 #[.agg #[.slice m.gX_a m.gX_n m.gX_c, .slice m.gY_a m.gY_n m.gY_c, .slice m.gZ_a m.gZ_n m.gZ_c], .int .i64 x] hb21 (by kernel_rfl) (Column_any m x _ (mpQ_sep hm S3)) ?_
    rintro _ w4 ⟨ra1, rc1, ra2, rc2, rfl, T3⟩
    have S4 : Sep w [rowOf encI ra2 rc2 3 1 (colV m x), rowOf encI ra1 rc1 3 1 (colN m), box b1 [.slice m.gX_a m.gX_n m.gX_c, .slice m.gY_a m.gY_n m.gY_c, .slice m.gZ_a m.gZ_n m.gZ_c] 25] w4 := S3.trans T3
    refine J.run 3 K7_6 [(25, .int .i64 (errM m)), (24, .agg #[.slice ra1 ((colN m).length) rc1, .slice ra2 ((colV m x).length) rc2]), (3, .pointer (some ⟨b1, 0, none⟩)), (1, .int .i64 x), (2, .int .i64 y)] w4 (by kernel_rfl) ?_
    refine J.new S4 7 [.slice none 0 0, .slice none 0 0] 40 (by kernel_rfl) ?_
    intro b2 w5 S5
    refine J.stBox S5 0 40 0 (.agg #[.slice ra1 ((colN m).length) rc1, .slice ra2 ((colV m x).length) rc2]) [.slice ra1 ((colN m).length) rc1, .slice ra2 ((colV m x).length) rc2] [box b2 [.slice ra1 ((colN m).length) rc1, .slice ra2 ((colV m x).length) rc2] 40, rowOf encI ra2 rc2 3 1 (colV m x), rowOf encI ra1 rc1 3 1 (colN m), box b1 [.slice m.gX_a m.gX_n m.gX_c, .slice m.gY_a m.gY_n m.gY_c, .slice m.gZ_a m.gZ_n m.gZ_c] 25] (by kernel_rfl) rfl (by kernel_rfl) (by kernel_rfl) rfl ?_
    intro w6 S6
    refine J.run 4 K7_7 [(8, .int .i64 (errM m)), (7, .pointer (some ⟨b2, 0, none⟩)), (3, .pointer (some ⟨b1, 0, none⟩)), (1, .int .i64 x), (2, .int .i64 y)] w6 (by kernel_rfl) ?_
    refine J.ok (OK.ldBox S6 3 27 25 0 (.agg #[.slice m.gX_a m.gX_n m.gX_c, .slice m.gY_a m.gY_n m.gY_c, .slice m.gZ_a m.gZ_n m.gZ_c]) (by kernel_rfl) rfl (by kernel_rfl)) ?_
    refine J.run 1 K7_8 [(28, .int .i64 y), (27, .agg #[.slice m.gX_a m.gX_n m.gX_c, .slice m.gY_a m.gY_n m.gY_c, .slice m.gZ_a m.gZ_n m.gZ_c]), (8, .int .i64 (errM m)), (7, .pointer (some ⟨b2, 0, none⟩)), (3, .pointer (some ⟨b1, 0, none⟩)), (1, .int .i64 x), (2, .int .i64 y)] w6 (by kernel_rfl) ?_
    refine J.callF 29 22 #[.agg #[.slice m.gX_a m.gX_n m.gX_c, .slice m.gY_a m.gY_n m.gY_c, .slice m.gZ_a m.gZ_n m.gZ_c], .int .i64 y] hb22 (by kernel_rfl) (Row_any m y _ (mpQ_sep hm S6)) ?_
    rintro _ w7 ⟨ra3, rc3, ra4, rc4, rfl, T4⟩
    have S7 : Sep w [rowOf encI ra4 rc4 3 1 (rowV m y), rowOf encI ra3 rc3 3 1 (rowN m), box b2 [.slice ra1 ((colN m).length) rc1, .slice ra2 ((colV m x).length) rc2] 40, rowOf encI ra2 rc2 3 1 (colV m x), rowOf encI ra1 rc1 3 1 (colN m), box b1 [.slice m.gX_a m.gX_n m.gX_c, .slice m.gY_a m.gY_n m.gY_c, .slice m.gZ_a m.gZ_n m.gZ_c] 25] w7 := S6.trans T4
    refine J.run 3 K7_9 [(31, .int .i64 (errM m)), (30, .agg #[.slice ra3 ((rowN m).length) rc3, .slice ra4 ((rowV m y).length) rc4]), (8, .int .i64 (errM m)), (7, .pointer (some ⟨b2, 0, none⟩)), (3, .pointer (some ⟨b1, 0, none⟩)), (1, .int .i64 x), (2, .int .i64 y)] w7 (by kernel_rfl) ?_
    refine J.new S7 9 [.slice none 0 0, .slice none 0 0] 40 (by kernel_rfl) ?_
    intro b3 w8 S8
    refine J.stBox S8 0 40 0 (.agg #[.slice ra3 ((rowN m).length) rc3, .slice ra4 ((rowV m y).length) rc4]) [.slice ra3 ((rowN m).length) rc3, .slice ra4 ((rowV m y).length) rc4] [box b3 [.slice ra3 ((rowN m).length) rc3, .slice ra4 ((rowV m y).length) rc4] 40, rowOf encI ra4 rc4 3 1 (rowV m y), rowOf encI ra3 rc3 3 1 (rowN m), box b2 [.slice ra1 ((colN m).length) rc1, .slice ra2 ((colV m x).length) rc2] 40, rowOf encI ra2 rc2 3 1 (colV m x), rowOf encI ra1 rc1 3 1 (colN m), box b1 [.slice m.gX_a m.gX_n m.gX_c, .slice m.gY_a m.gY_n m.gY_c, .slice m.gZ_a m.gZ_n m.gZ_c] 25] (by kernel_rfl) rfl (by kernel_rfl) (by kernel_rfl) rfl ?_
    intro w9 S9
    refine J.run 4 K7_10 [(10, .int .i64 (errM m)), (9, .pointer (some ⟨b3, 0, none⟩)), (8, .int .i64 (errM m)), (7, .pointer (some ⟨b2, 0, none⟩)), (3, .pointer (some ⟨b1, 0, none⟩)), (1, .int .i64 x), (2, .int .i64 y)] w9 (by kernel_rfl) ?_
    refine J.ok (OK.ldBox S9 6 33 25 0 (.agg #[.slice m.gX_a m.gX_n m.gX_c, .slice m.gY_a m.gY_n m.gY_c, .slice m.gZ_a m.gZ_n m.gZ_c]) (by kernel_rfl) rfl (by kernel_rfl)) ?_
    refine J.run 1 K7_11 [(34, .int .i64 x), (33, .agg #[.slice m.gX_a m.gX_n m.gX_c, .slice m.gY_a m.gY_n m.gY_c, .slice m.gZ_a m.gZ_n m.gZ_c]), (10, .int .i64 (errM m)), (9, .pointer (some ⟨b3, 0, none⟩)), (8, .int .i64 (errM m)), (7, .pointer (some ⟨b2, 0, none⟩)), (3, .pointer (some ⟨b1, 0, none⟩)), (2, .int .i64 y)] w9 (by kernel_rfl) ?_
    refine J.callF 35 23 #[.agg #[.slice m.gX_a m.gX_n m.gX_c, .slice m.gY_a m.gY_n m.gY_c, .slice m.gZ_a m.gZ_n m.gZ_c], .int .i64 x] hb23 (by kernel_rfl) (rColumn_any m x _ (mpQ_sep hm S9)) ?_
    rintro _ w10 ⟨ra5, rc5, ra6, rc6, rfl, T5⟩
    have S10 : Sep w [rowOf encI ra6 rc6 3 1 (colV m x), rowOf encI ra5 rc5 3 1 (colN m), box b3 [.slice ra3 ((rowN m).length) rc3, .slice ra4 ((rowV m y).length) rc4] 40, rowOf encI ra4 rc4 3 1 (rowV m y), rowOf encI ra3 rc3 3 1 (rowN m), box b2 [.slice ra1 ((colN m).length) rc1, .slice ra2 ((colV m x).length) rc2] 40, rowOf encI ra2 rc2 3 1 (colV m x), rowOf encI ra1 rc1 3 1 (colN m), box b1 [.slice m.gX_a m.gX_n m.gX_c, .slice m.gY_a m.gY_n m.gY_c, .slice m.gZ_a m.gZ_n m.gZ_c] 25] w10 := S9.trans T5
    refine J.run 3 K7_12 [(37, .int .i64 (errM m)), (36, .agg #[.slice ra5 ((colN m).length) rc5, .slice ra6 ((colV m x).length) rc6]), (10, .int .i64 (errM m)), (9, .pointer (some ⟨b3, 0, none⟩)), (8, .int .i64 (errM m)), (7, .pointer (some ⟨b2, 0, none⟩)), (3, .pointer (some ⟨b1, 0, none⟩)), (2, .int .i64 y)] w10 (by kernel_rfl) ?_
    refine J.new S10 11 [.slice none 0 0, .slice none 0 0] 40 (by kernel_rfl) ?_
    intro b4 w11 S11
    refine J.stBox S11 0 40 0 (.agg #[.slice ra5 ((colN m).length) rc5, .slice ra6 ((colV m x).length) rc6]) [.slice ra5 ((colN m).length) rc5, .slice ra6 ((colV m x).length) rc6] [box b4 [.slice ra5 ((colN m).length) rc5, .slice ra6 ((colV m x).length) rc6] 40, rowOf encI ra6 rc6 3 1 (colV m x), rowOf encI ra5 rc5 3 1 (colN m), box b3 [.slice ra3 ((rowN m).length) rc3, .slice ra4 ((rowV m y).length) rc4] 40, rowOf encI ra4 rc4 3 1 (rowV m y), rowOf encI ra3 rc3 3 1 (rowN m), box b2 [.slice ra1 ((colN m).length) rc1, .slice ra2 ((colV m x).length) rc2] 40, rowOf encI ra2 rc2 3 1 (colV m x), rowOf encI ra1 rc1 3 1 (colN m), box b1 [.slice m.gX_a m.gX_n m.gX_c, .slice m.gY_a m.gY_n m.gY_c, .slice m.gZ_a m.gZ_n m.gZ_c] 25] (by kernel_rfl) rfl (by kernel_rfl) (by kernel_rfl) rfl ?_
    intro w12 S12
    refine J.run 4 K7_13 [(12, .int .i64 (errM m)), (11, .pointer (some ⟨b4, 0, none⟩)), (10, .int .i64 (errM m)), (9, .pointer (some ⟨b3, 0, none⟩)), (8, .int .i64 (errM m)), (7, .pointer (some ⟨b2, 0, none⟩)), (3, .pointer (some ⟨b1, 0, none⟩)), (2, .int .i64 y)] w12 (by kernel_rfl) ?_
    refine J.ok (OK.ldBox S12 9 39 25 0 (.agg #[.slice m.gX_a m.gX_n m.gX_c, .slice m.gY_a m.gY_n m.gY_c, .slice m.gZ_a m.gZ_n m.gZ_c]) (by kernel_rfl) rfl (by kernel_rfl)) ?_
    refine J.run 1 K7_14 [(40, .int .i64 y), (39, .agg #[.slice m.gX_a m.gX_n m.gX_c, .slice m.gY_a m.gY_n m.gY_c, .slice m.gZ_a m.gZ_n m.gZ_c]), (12, .int .i64 (errM m)), (11, .pointer (some ⟨b4, 0, none⟩)), (10, .int .i64 (errM m)), (9, .pointer (some ⟨b3, 0, none⟩)), (8, .int .i64 (errM m)), (7, .pointer (some ⟨b2, 0, none⟩))] w12 (by kernel_rfl) ?_
    refine J.callF 41 24 #[.agg #[.slice m.gX_a m.gX_n m.gX_c, .slice m.gY_a m.gY_n m.gY_c, .slice m.gZ_a m.gZ_n m.gZ_c], .int .i64 y] hb24 (by kernel_rfl) (rRow_any m y _ (mpQ_sep hm S12)) ?_
    rintro _ w13 ⟨ra7, rc7, ra8, rc8, rfl, T6⟩
    have S13 : Sep w [rowOf encI ra8 rc8 3 1 (rowV m y), rowOf encI ra7 rc7 3 1 (rowN m), box b4 [.slice ra5 ((colN m).length) rc5, .slice ra6 ((colV m x).length) rc6] 40, rowOf encI ra6 rc6 3 1 (colV m x), rowOf encI ra5 rc5 3 1 (colN m), box b3 [.slice ra3 ((rowN m).length) rc3, .slice ra4 ((rowV m y).length) rc4] 40, rowOf encI ra4 rc4 3 1 (rowV m y), rowOf encI ra3 rc3 3 1 (rowN m), box b2 [.slice ra1 ((colN m).length) rc1, .slice ra2 ((colV m x).length) rc2] 40, rowOf encI ra2 rc2 3 1 (colV m x), rowOf encI ra1 rc1 3 1 (colN m), box b1 [.slice m.gX_a m.gX_n m.gX_c, .slice m.gY_a m.gY_n m.gY_c, .slice m.gZ_a m.gZ_n m.gZ_c] 25] w13 := S12.trans T6
    refine J.run 3 K7_15 [(43, .int .i64 (errM m)), (42, .agg #[.slice ra7 ((rowN m).length) rc7, .slice ra8 ((rowV m y).length) rc8]), (12, .int .i64 (errM m)), (11, .pointer (some ⟨b4, 0, none⟩)), (10, .int .i64 (errM m)), (9, .pointer (some ⟨b3, 0, none⟩)), (8, .int .i64 (errM m)), (7, .pointer (some ⟨b2, 0, none⟩))] w13 (by kernel_rfl) ?_
    refine J.new S13 13 [.slice none 0 0, .slice none 0 0] 40 (by kernel_rfl) ?_
    intro b5 w14 S14
    refine J.stBox S14 0 40 0 (.agg #[.slice ra7 ((rowN m).length) rc7, .slice ra8 ((rowV m y).length) rc8]) [.slice ra7 ((rowN m).length) rc7, .slice ra8 ((rowV m y).length) rc8] [box b5 [.slice ra7 ((rowN m).length) rc7, .slice ra8 ((rowV m y).length) rc8] 40, rowOf encI ra8 rc8 3 1 (rowV m y), rowOf encI ra7 rc7 3 1 (rowN m), box b4 [.slice ra5 ((colN m).length) rc5, .slice ra6 ((colV m x).length) rc6] 40, rowOf encI ra6 rc6 3 1 (colV m x), rowOf encI ra5 rc5 3 1 (colN m), box b3 [.slice ra3 ((rowN m).length) rc3, .slice ra4 ((rowV m y).length) rc4] 40, rowOf encI ra4 rc4 3 1 (rowV m y), rowOf encI ra3 rc3 3 1 (rowN m), box b2 [.slice ra1 ((colN m).length) rc1, .slice ra2 ((colV m x).length) rc2] 40, rowOf encI ra2 rc2 3 1 (colV m x), rowOf encI ra1 rc1 3 1 (colN m), box b1 [.slice m.gX_a m.gX_n m.gX_c, .slice m.gY_a m.gY_n m.gY_c, .slice m.gZ_a m.gZ_n m.gZ_c] 25] (by kernel_rfl) rfl (by kernel_rfl) (by kernel_rfl) rfl ?_
    intro w15 S15
    refine J.run 7 K7_16 [(46, .bool ((errM m) == (errM m))), (14, .int .i64 (errM m)), (13, .pointer (some ⟨b5, 0, none⟩)), (11, .pointer (some ⟨b4, 0, none⟩)), (10, .int .i64 (errM m)), (9, .pointer (some ⟨b3, 0, none⟩)), (7, .pointer (some ⟨b2, 0, none⟩))] w15 (by kernel_rfl) ?_
    refine J.head (.bool true) (congrArg Value.bool (by simp)) ?_
    refine J.run 4 K7_17 [(50, .bool ((errM m) == (errM m))), (47, .bool true), (13, .pointer (some ⟨b5, 0, none⟩)), (11, .pointer (some ⟨b4, 0, none⟩)), (9, .pointer (some ⟨b3, 0, none⟩)), (7, .pointer (some ⟨b2, 0, none⟩))] w15 (by kernel_rfl) ?_
    refine J.head (.bool true) (congrArg Value.bool (by simp)) ?_
    refine J.run 2 K7_18 [(52, .bool true), (13, .pointer (some ⟨b5, 0, none⟩)), (11, .pointer (some ⟨b4, 0, none⟩)), (9, .pointer (some ⟨b3, 0, none⟩)), (7, .pointer (some ⟨b2, 0, none⟩))] w15 (by kernel_rfl) ?_
    refine J.ok (OK.ldBox S15 9 53 40 0 (.agg #[.slice ra1 ((colN m).length) rc1, .slice ra2 ((colV m x).length) rc2]) (by kernel_rfl) rfl (by kernel_rfl)) ?_
    refine J.ok (OK.ldBox S15 3 54 40 0 (.agg #[.slice ra5 ((colN m).length) rc5, .slice ra6 ((colV m x).length) rc6]) (by kernel_rfl) rfl (by kernel_rfl)) ?_
    have := rowOf_len (S15.nth 11 rfl)
    have := rowOf_len (S15.nth 10 rfl)
    have := rowOf_len (S15.nth 5 rfl)
    have := rowOf_len (S15.nth 4 rfl)
    refine J.callF 55 25 #[.agg #[.slice ra1 ((colN m).length) rc1, .slice ra2 ((colV m x).length) rc2], .agg #[.slice ra5 ((colN m).length) rc5, .slice ra6 ((colV m x).length) rc6]] hb25 (by kernel_rfl) (same_any ra1 ((colN m).length) rc1 (colN m) ra2 ((colV m x).length) rc2 (colV m x) ra5 ((colN m).length) rc5 (colN m) ra6 ((colV m x).length) rc6 (colV m x) _ ((row1_ones (S15.nth 11 rfl) ((colN m).length) (by first | rfl | omega | simp))) ((row1_ones (S15.nth 10 rfl) ((colV m x).length) (by first | rfl | omega | simp))) ((row1_ones (S15.nth 5 rfl) ((colN m).length) (by first | rfl | omega | simp))) ((row1_ones (S15.nth 4 rfl) ((colV m x).length) (by first | rfl | omega | simp))) (by first | omega | (simp; omega)) (by first | omega | (simp; omega))) ?_
    rintro _ w16 ⟨rfl, T7⟩
    have S16 : Sep w [box b5 [.slice ra7 ((rowN m).length) rc7, .slice ra8 ((rowV m y).length) rc8] 40, rowOf encI ra8 rc8 3 1 (rowV m y), rowOf encI ra7 rc7 3 1 (rowN m), box b4 [.slice ra5 ((colN m).length) rc5, .slice ra6 ((colV m x).length) rc6] 40, rowOf encI ra6 rc6 3 1 (colV m x), rowOf encI ra5 rc5 3 1 (colN m), box b3 [.slice ra3 ((rowN m).length) rc3, .slice ra4 ((rowV m y).length) rc4] 40, rowOf encI ra4 rc4 3 1 (rowV m y), rowOf encI ra3 rc3 3 1 (rowN m), box b2 [.slice ra1 ((colN m).length) rc1, .slice ra2 ((colV m x).length) rc2] 40, rowOf encI ra2 rc2 3 1 (colV m x), rowOf encI ra1 rc1 3 1 (colN m), box b1 [.slice m.gX_a m.gX_n m.gX_c, .slice m.gY_a m.gY_n m.gY_c, .slice m.gZ_a m.gZ_n m.gZ_c] 25] w16 := S15.trans T7
    clear T7 S15
    refine J.head (.bool true) (congrArg Value.bool (by simp)) ?_
    refine J.run 2 K7_19 [(57, .bool true), (13, .pointer (some ⟨b5, 0, none⟩)), (9, .pointer (some ⟨b3, 0, none⟩))] w16 (by kernel_rfl) ?_
    refine J.ok (OK.ldBox S16 6 58 40 0 (.agg #[.slice ra3 ((rowN m).length) rc3, .slice ra4 ((rowV m y).length) rc4]) (by kernel_rfl) rfl (by kernel_rfl)) ?_
    refine J.ok (OK.ldBox S16 0 59 40 0 (.agg #[.slice ra7 ((rowN m).length) rc7, .slice ra8 ((rowV m y).length) rc8]) (by kernel_rfl) rfl (by kernel_rfl)) ?_
    have := rowOf_len (S16.nth 8 rfl)
    have := rowOf_len (S16.nth 7 rfl)
    have := rowOf_len (S16.nth 2 rfl)
    have := rowOf_len (S16.nth 1 rfl)
    refine J.callF 60 25 #[.agg #[.slice ra3 ((rowN m).length) rc3, .slice ra4 ((rowV m y).length) rc4], .agg #[.slice ra7 ((rowN m).length) rc7, .slice ra8 ((rowV m y).length) rc8]] hb25 (by kernel_rfl) (same_any ra3 ((rowN m).length) rc3 (rowN m) ra4 ((rowV m y).length) rc4 (rowV m y) ra7 ((rowN m).length) rc7 (rowN m) ra8 ((rowV m y).length) rc8 (rowV m y) _ ((row1_ones (S16.nth 8 rfl) ((rowN m).length) (by first | rfl | omega | simp))) ((row1_ones (S16.nth 7 rfl) ((rowV m y).length) (by first | rfl | omega | simp))) ((row1_ones (S16.nth 2 rfl) ((rowN m).length) (by first | rfl | omega | simp))) ((row1_ones (S16.nth 1 rfl) ((rowV m y).length) (by first | rfl | omega | simp))) (by first | omega | (simp; omega)) (by first | omega | (simp; omega))) ?_
    rintro _ w17 ⟨rfl, T8⟩
    have S17 : Sep w [box b5 [.slice ra7 ((rowN m).length) rc7, .slice ra8 ((rowV m y).length) rc8] 40, rowOf encI ra8 rc8 3 1 (rowV m y), rowOf encI ra7 rc7 3 1 (rowN m), box b4 [.slice ra5 ((colN m).length) rc5, .slice ra6 ((colV m x).length) rc6] 40, rowOf encI ra6 rc6 3 1 (colV m x), rowOf encI ra5 rc5 3 1 (colN m), box b3 [.slice ra3 ((rowN m).length) rc3, .slice ra4 ((rowV m y).length) rc4] 40, rowOf encI ra4 rc4 3 1 (rowV m y), rowOf encI ra3 rc3 3 1 (rowN m), box b2 [.slice ra1 ((colN m).length) rc1, .slice ra2 ((colV m x).length) rc2] 40, rowOf encI ra2 rc2 3 1 (colV m x), rowOf encI ra1 rc1 3 1 (colN m), box b1 [.slice m.gX_a m.gX_n m.gX_c, .slice m.gY_a m.gY_n m.gY_c, .slice m.gZ_a m.gZ_n m.gZ_c] 25] w17 := S16.trans T8
    clear T8 S16
    refine J.head (.bool true) (congrArg Value.bool (by simp)) ?_
    refine J.run 3 K7_20 [(6, .bool true)] w17 (by kernel_rfl) ?_
    refine J.ret Try.f7 [.bool true] Try.func7 ⟨by kernel_rfl, trivial⟩ ?_
    refine hR _ _ ?_
    exact ⟨rfl, S17.nil⟩
  · skip
    refine J.head (.bool true) (congrArg Value.bool (by rw [fk1]; rfl)) ?_
    refine J.run 5 K7_21 [(6, .bool true)] w3 (by kernel_rfl) ?_
    refine J.ret Try.f7 [.bool true] Try.func7 ⟨by kernel_rfl, trivial⟩ ?_
    refine hR _ _ ?_
    exact ⟨rfl, S3.nil⟩

end Go.Proofs.Ytempepmfifljmaa
