/- Walks of functions of this seat, printed by a program over the engine. Conditions: as each theorem says. -/
import Derived.Test.YthiklimfffhbaaaDoorZpP18
namespace Go.Proofs.YthiklimfffhbaaaDoor
noncomputable section
open Go.Eng Go.RowKit
set_option linter.unusedSimpArgs false
set_option linter.unusedVariables false
theorem rwords_any2 (s : ByteArray) (ln : Int) (w : World) (hsz : s.size ≤ 1000000) (hln : 0 ≤ ln ∧ ln ≤ 1099511627776) : Ret Tryd.prog 44 #[.string s, iv ln] w (fun v w' => ∃ L : List Wd, L = wdsL (ls s) ∧ ∃ W : List Tk, W = L.map (tkW ln) ∧ ∃ a c, v = .slice a W.length c ∧ Sep w [rowOf tkE a c 109 4 W] w') :=
  (rwords_any s ln w hsz hln).mono fun v w' ⟨a, c, hv, S⟩ => ⟨_, rfl, _, rfl, a, c, hv, S⟩
theorem hb15 : HasBody Tryd.prog 15 := fun _ _ => by kernel_rfl
def K15_0 := adv 2 [] (bodyOf Tryd.f15)
def K15_1 := adv 9 [] (popK (popK K15_0))
def K15_2 := adv 5 [true] K15_1
def K15_3 := adv 2 [] (popK (popK K15_2))
def K15_4 := adv 4 [false] K15_1
def K15_5 := adv 13 [] (popK K15_4)
def K15_6 := adv 8 [] K15_5
def K15_7 := adv 12 [true] K15_6
def K15_8 := adv 2 [] K15_7
def K15_9 := adv 3 [] (popK K15_8)
def K15_10 := adv 7 [false] K15_9
def K15_11 := adv 1 [] (popK K15_10)
def K15_12 := adv 9 [] (popK K15_11)
def K15_13 := adv 8 [true] K15_12
def K15_14 := adv 1 [] K15_13
def K15_15 := adv 2 [] K15_14
def K15_16 := adv 5 [] (popK K15_15)
def K15_17 := adv 6 [] (popK (popK (popK K15_16)))
def K15_18 := adv 2 [] (popK K15_17)
def K15_19 := adv 6 [false] K15_18
def K15_20 := adv 5 [] K15_19
def K15_21 := adv 6 [] K15_20
def K15_22 := adv 2 [true] K15_18
def K15_23 := adv 6 [false] K15_12
def K15_24 := adv 5 [] K15_23
def K15_25 := adv 6 [] K15_24
def K15_26 := adv 5 [true] K15_9
def K15_27 := adv 13 [false] K15_7
def K15_28 := adv 1 [] (popK K15_27)
def K15_29 := adv 9 [] (popK K15_28)
def K15_30 := adv 8 [true] K15_29
def K15_31 := adv 1 [] K15_30
def K15_32 := adv 2 [] K15_31
def K15_33 := adv 5 [] (popK K15_32)
def K15_34 := adv 6 [] (popK (popK (popK K15_33)))
def K15_35 := adv 2 [] (popK K15_34)
def K15_36 := adv 6 [false] K15_35
def K15_37 := adv 5 [] K15_36
def K15_38 := adv 6 [] K15_37
def K15_39 := adv 2 [true] K15_35
def K15_40 := adv 6 [false] K15_29
def K15_41 := adv 5 [] K15_40
def K15_42 := adv 6 [] K15_41
def K15_43 := adv 5 [false] K15_6
def K15_44 := adv 11 [] (popK (popK K15_43))
def K15_45 := adv 4 [false] K15_44
def K15_46 := adv 1 [] (popK K15_45)
def K15_47 := adv 2 [] (popK (popK K15_46))
def K15_48 := adv 6 [true] K15_44
def K15_49 := adv 2 [] (popK (popK K15_48))
set_option maxRecDepth 20000 in
set_option maxHeartbeats 20000000 in
theorem rparse42_any (s : ByteArray) (w : World) (hs : s.size ≤ 9223372036854775807) : Ret Tryd.prog 15 #[.string s] w (PPost s w) := by
 have S0 := Sep.refl w
 refine Ret.named fun R hR => ?_
 refine Ret.of_J (N := 85) [(0, .string s)] Tryd.func15 rfl rfl (Nat.le_of_ble_eq_true (by kernel_rfl)) (by kernel_rfl) ?_
 refine J.run 2 K15_0 [(0, .string s)] w (by kernel_rfl) ?_
 refine J.new S0 2 [.slice none 0 0] 24 (by kernel_rfl) ?_
 intro b1 w1 S1
 refine J.new S1 3 [iv 0, iv 0] 40 (by kernel_rfl) ?_
 intro b2 w2 S2
 refine J.run 9 K15_1 [(15, .bool (decide ((s.size : Int) > 16384))), (3, .pointer (some ⟨b2, 0, none⟩)), (2, .pointer (some ⟨b1, 0, none⟩)), (0, .string s)] w2 (by kernel_rfl) ?_
 by_cases fk1 : (s.size : Int) > 16384
 ·skip
  refine J.head (.bool true) (congrArg Value.bool (decide_eq_true fk1)) ?_
  refine J.run 5 K15_2 [(17, .agg #[iv 0, iv 0]), (16, .agg #[.slice none 0 0]), (3, .pointer (some ⟨b2, 0, none⟩)), (2, .pointer (some ⟨b1, 0, none⟩))] w2 (by kernel_rfl) ?_
  refine J.stBox S2 1 24 0 (.agg #[.slice none 0 0]) [.slice none 0 0] [box b2 [iv 0, iv 0] 40, box b1 [.slice none 0 0] 24] (by kernel_rfl) rfl (by kernel_rfl) (by kernel_rfl) rfl ?_
  intro w3 S3
  refine J.stBox S3 0 40 0 (.agg #[iv 0, iv 0]) [iv 0, iv 0] [box b2 [iv 0, iv 0] 40, box b1 [.slice none 0 0] 24] (by kernel_rfl) rfl (by kernel_rfl) (by kernel_rfl) rfl ?_
  intro w4 S4
  refine J.run 2 K15_3 [(4, iv 5), (3, .pointer (some ⟨b2, 0, none⟩)), (2, .pointer (some ⟨b1, 0, none⟩))] w4 (by kernel_rfl) ?_
  refine J.ret Tryd.f15 [.agg #[.slice none 0 0], .agg #[iv 0, iv 0], iv 5] Tryd.func15 ⟨⟨⟨b1, 0, none⟩, by kernel_rfl, ldV_run (S4.nth 1 rfl) (by kernel_rfl)⟩, ⟨⟨b2, 0, none⟩, by kernel_rfl, ldV_run (S4.nth 0 rfl) (by kernel_rfl)⟩, by kernel_rfl, trivial⟩ ?_
  refine hR _ _ ?_
  exact bad_post (by unfold parsF; rw [if_pos (by omega)]) S4
 refine J.head (.bool false) (congrArg Value.bool (decide_eq_false fk1)) ?_
 refine J.run 4 K15_4 [(3, .pointer (some ⟨b2, 0, none⟩)), (2, .pointer (some ⟨b1, 0, none⟩)), (0, .string s)] w2 (by kernel_rfl) ?_
 refine J.new S2 5 [.slice none 0 0] 24 (by kernel_rfl) ?_
 intro b3 w5 S5
 refine J.run 13 K15_5 [(8, iv 0), (7, iv 0), (6, iv 1), (5, .pointer (some ⟨b3, 0, none⟩)), (3, .pointer (some ⟨b2, 0, none⟩)), (2, .pointer (some ⟨b1, 0, none⟩)), (0, .string s)] w5 (by kernel_rfl) ?_
 have S6 : Sep w (box b3 [.slice none 0 0] 24 :: box b2 [iv 0, iv 0] 40 :: box b1 [.slice none 0 0] 24 :: tlF ([])) w5 := S5
 have S7 : Sep w (rowOf frmE none 0 34 5 ([]) :: box b3 [.slice none 0 0] 24 :: box b2 [iv 0, iv 0] 40 :: box b1 [.slice none 0 0] 24 :: tlF ([])) w5 := S6.nilRow 34 5
 have L15_1 : ∀ (mm_ : Nat) (ra : Option Addr) (rc : Nat) (out : List Frm) (ln : Int) (fr : Int) (i : Int) (w6 : World), (0 ≤ fr) → (fr ≤ i) → (i ≤ (s.size : Int) + 1) → (1 ≤ ln ∧ ln ≤ i + 1) → (i ≤ (s.size : Int) ∨ fr = i) → (((out).length : Int) ≤ i) → (∀ y ∈ out, okF y) → (∀ y ∈ out, (y.gSignals_l.length : Int) ≤ i) → (∀ k, fr ≤ k → k < i → byteAt s k.toNat ≠ 10) → (parsF s = parP (pcs s fr) ln ((out).map clF)) → Sep w (rowOf frmE ra rc 34 5 out :: box b3 [.slice ra out.length rc] 24 :: box b2 [iv 0, iv 0] 40 :: box b1 [.slice none 0 0] 24 :: tlF out) w6 → ((s.size : Int) + 1 - i).toNat = mm_ → J Tryd.prog 15 85 R K15_5 [(8, iv i), (7, iv fr), (6, iv ln), (5, .pointer (some ⟨b3, 0, none⟩)), (3, .pointer (some ⟨b2, 0, none⟩)), (2, .pointer (some ⟨b1, 0, none⟩)), (0, .string s)] w6 := by
  intro mm1
  induction mm1 using Nat.strongRecOn with
  | _ mm1 ih1 =>
  intro ra rc out ln fr i w6 h0 hfi h1 hln hend hol hof hsl hns hQ S8 hm1
  refine J.run 8 K15_6 [(21, .bool (decide (i ≤ (s.size : Int)))), (8, iv i), (7, iv fr), (6, iv ln), (5, .pointer (some ⟨b3, 0, none⟩)), (3, .pointer (some ⟨b2, 0, none⟩)), (2, .pointer (some ⟨b1, 0, none⟩)), (0, .string s)] w6 (by kernel_rfl) ?_
  by_cases fk2 : i ≤ (s.size : Int)
  rotate_left
  ·skip
   refine J.head (.bool false) (congrArg Value.bool (decide_eq_false fk2)) ?_
   refine J.run 5 K15_43 [(5, .pointer (some ⟨b3, 0, none⟩)), (3, .pointer (some ⟨b2, 0, none⟩)), (2, .pointer (some ⟨b1, 0, none⟩))] w6 (by kernel_rfl) ?_
   refine J.ok (OK.ldBox S8 1 74 24 0 (.agg #[.slice ra out.length rc]) (by kernel_rfl) rfl (by kernel_rfl)) ?_
   refine J.callF 75 46 #[.agg #[.slice ra out.length rc]] hb46 (by kernel_rfl) (rfault_any (⟨ra, out.length, rc, out⟩ : Db) _ (show dbQ _ (⟨ra, out.length, rc, out⟩ : Db) from ⟨⟨(rowOf_cells (S8.nth 0 rfl)).2.2, rowOf_cap (S8.nth 0 rfl)⟩, (rowOf_recs (S8.nth 0 rfl) _ rfl (fun _ => rfl) (by decide)), by exact tl_q (L1 := [rowOf frmE ra rc 34 5 out, box b3 [.slice ra out.length rc] 24, box b2 [iv 0, iv 0] 40, box b1 [.slice none 0 0] 24]) S8 hof, trivial⟩)) ?_
   rintro _ w21 ⟨rfl, T3⟩
   have S33 : Sep w (rowOf frmE ra rc 34 5 out :: box b3 [.slice ra out.length rc] 24 :: box b2 [iv 0, iv 0] 40 :: box b1 [.slice none 0 0] 24 :: tlF out) w21 := S8.trans T3
   clear T3 S8
   refine J.run 11 K15_44 [(79, .bool (((faultF (⟨ra, out.length, rc, out⟩ : Db)).2) != 0)), (12, iv ((faultF (⟨ra, out.length, rc, out⟩ : Db)).2)), (5, .pointer (some ⟨b3, 0, none⟩)), (3, .pointer (some ⟨b2, 0, none⟩)), (2, .pointer (some ⟨b1, 0, none⟩))] w21 (by kernel_rfl) ?_
   by_cases fk9 : ((faultF (⟨ra, out.length, rc, out⟩ : Db)).2) = 0
   rotate_left
   ·skip
    refine J.head (.bool true) (congrArg Value.bool (bne_iff_ne.2 fk9)) ?_
    refine J.run 6 K15_48 [(82, iv ((faultF (⟨ra, out.length, rc, out⟩ : Db)).2)), (81, .agg #[iv 0, iv 0]), (80, .agg #[.slice none 0 0]), (3, .pointer (some ⟨b2, 0, none⟩)), (2, .pointer (some ⟨b1, 0, none⟩))] w21 (by kernel_rfl) ?_
    refine J.stBox S33 3 24 0 (.agg #[.slice none 0 0]) [.slice none 0 0] (rowOf frmE ra rc 34 5 out :: box b3 [.slice ra out.length rc] 24 :: box b2 [iv 0, iv 0] 40 :: box b1 [.slice none 0 0] 24 :: tlF out) (by kernel_rfl) rfl (by kernel_rfl) (by kernel_rfl) rfl ?_
    intro w24 S37
    refine J.stBox S37 2 40 0 (.agg #[iv 0, iv 0]) [iv 0, iv 0] (rowOf frmE ra rc 34 5 out :: box b3 [.slice ra out.length rc] 24 :: box b2 [iv 0, iv 0] 40 :: box b1 [.slice none 0 0] 24 :: tlF out) (by kernel_rfl) rfl (by kernel_rfl) (by kernel_rfl) rfl ?_
    intro w25 S38
    refine J.run 2 K15_49 [(4, iv ((faultF (⟨ra, out.length, rc, out⟩ : Db)).2)), (3, .pointer (some ⟨b2, 0, none⟩)), (2, .pointer (some ⟨b1, 0, none⟩))] w25 (by kernel_rfl) ?_
    refine J.ret Tryd.f15 [.agg #[.slice none 0 0], .agg #[iv 0, iv 0], iv ((faultF (⟨ra, out.length, rc, out⟩ : Db)).2)] Tryd.func15 ⟨⟨⟨b1, 0, none⟩, by kernel_rfl, ldV_run (S38.nth 3 rfl) (by kernel_rfl)⟩, ⟨⟨b2, 0, none⟩, by kernel_rfl, ldV_run (S38.nth 2 rfl) (by kernel_rfl)⟩, by kernel_rfl, trivial⟩ ?_
    refine hR _ _ ?_
    exact fin_bad (by rw [hQ, pcs_end (by omega)]; rfl) hof fk9 S38
   refine J.head (.bool false) (congrArg Value.bool (bne_eq_false_iff_eq.2 fk9)) ?_
   refine J.run 4 K15_45 [(5, .pointer (some ⟨b3, 0, none⟩)), (3, .pointer (some ⟨b2, 0, none⟩)), (2, .pointer (some ⟨b1, 0, none⟩))] w21 (by kernel_rfl) ?_
   refine J.ok (OK.ldBox S33 1 83 24 0 (.agg #[.slice ra out.length rc]) (by kernel_rfl) rfl (by kernel_rfl)) ?_
   refine J.run 1 K15_46 [(84, .agg #[iv 0, iv 0]), (83, .agg #[.slice ra out.length rc]), (3, .pointer (some ⟨b2, 0, none⟩)), (2, .pointer (some ⟨b1, 0, none⟩))] w21 (by kernel_rfl) ?_
   refine J.stBox S33 3 24 0 (.agg #[.slice ra out.length rc]) [.slice ra out.length rc] (rowOf frmE ra rc 34 5 out :: box b3 [.slice ra out.length rc] 24 :: box b2 [iv 0, iv 0] 40 :: box b1 [.slice ra out.length rc] 24 :: tlF out) (by kernel_rfl) rfl (by kernel_rfl) (by kernel_rfl) rfl ?_
   intro w22 S34
   refine J.stBox S34 2 40 0 (.agg #[iv 0, iv 0]) [iv 0, iv 0] (rowOf frmE ra rc 34 5 out :: box b3 [.slice ra out.length rc] 24 :: box b2 [iv 0, iv 0] 40 :: box b1 [.slice ra out.length rc] 24 :: tlF out) (by kernel_rfl) rfl (by kernel_rfl) (by kernel_rfl) rfl ?_
   intro w23 S35
   refine J.run 2 K15_47 [(4, iv 0), (3, .pointer (some ⟨b2, 0, none⟩)), (2, .pointer (some ⟨b1, 0, none⟩))] w23 (by kernel_rfl) ?_
   refine J.ret Tryd.f15 [.agg #[.slice ra out.length rc], .agg #[iv 0, iv 0], iv 0] Tryd.func15 ⟨⟨⟨b1, 0, none⟩, by kernel_rfl, ldV_run (S35.nth 3 rfl) (by kernel_rfl)⟩, ⟨⟨b2, 0, none⟩, by kernel_rfl, ldV_run (S35.nth 2 rfl) (by kernel_rfl)⟩, by kernel_rfl, trivial⟩ ?_
   refine hR _ _ ?_
   have S36 : Sep w (rowOf frmE ra rc 34 5 out :: tlF out) w23 := S35.sub (.cons_cons _ (.cons _ (.cons _ (.cons _ (List.Sublist.refl _)))))
   clear S35
   exact fin_ok (by rw [hQ, pcs_end (by omega)]; rfl) hof fk9 S36
  refine J.head (.bool true) (congrArg Value.bool (decide_eq_true fk2)) ?_
  refine J.run 12 K15_7 [(28, .bool (decide (i < (s.size : Int)))), (8, iv i), (7, iv fr), (6, iv ln), (5, .pointer (some ⟨b3, 0, none⟩)), (3, .pointer (some ⟨b2, 0, none⟩)), (2, .pointer (some ⟨b1, 0, none⟩)), (0, .string s)] w6 (by kernel_rfl) ?_
  by_cases fk3 : i < (s.size : Int)
  rotate_left
  ·skip
   refine J.head (.bool false) (congrArg Value.bool (decide_eq_false fk3)) ?_
   refine J.run 13 K15_27 [(36, iv i), (35, iv fr), (34, .string s), (8, iv i), (7, iv fr), (6, iv ln), (5, .pointer (some ⟨b3, 0, none⟩)), (3, .pointer (some ⟨b2, 0, none⟩)), (2, .pointer (some ⟨b1, 0, none⟩)), (0, .string s)] w6 (by kernel_rfl) ?_
   refine J.ok (OK.sliceT 37 9 s (some (iv fr)) (some (iv i)) ((fr).toNat) ((i).toNat) (by kernel_rfl) (by kernel_rfl) (.inr ⟨_, _, rfl, by omega⟩) (.inr ⟨_, _, rfl, by omega⟩) (by first | omega | (simp; omega)) (by first | omega | (simp; omega))) ?_
   have := size_extract s (i := (fr).toNat) (j := (i).toNat) (by first | omega | (simp; omega))
   refine J.run 1 K15_28 [(38, iv ln), (37, .string (s.extract ((fr).toNat) ((i).toNat))), (8, iv i), (7, iv fr), (6, iv ln), (5, .pointer (some ⟨b3, 0, none⟩)), (3, .pointer (some ⟨b2, 0, none⟩)), (2, .pointer (some ⟨b1, 0, none⟩)), (0, .string s)] w6 (by kernel_rfl) ?_
   have hQ2 : parsF s = parP (ls (s.extract ((fr).toNat) ((i).toNat)) :: pcs s (i + 1)) ln (out.map clF) := by rw [← pcs_cons h0 hfi (by omega) hns (fun h_ => by omega)]; exact hQ
   refine J.callF 39 44 #[.string (s.extract ((fr).toNat) ((i).toNat)), iv ln] hb44 (by kernel_rfl) (rwords_any2 (s.extract ((fr).toNat) ((i).toNat)) ln _ (by omega) (by omega)) ?_
   rintro _ w14 ⟨L, hL, W, hWt, wa, wc, rfl, T2⟩
   have S21 : Sep w (rowOf tkE wa wc 109 4 W :: rowOf frmE ra rc 34 5 out :: box b3 [.slice ra out.length rc] 24 :: box b2 [iv 0, iv 0] 40 :: box b1 [.slice none 0 0] 24 :: tlF out) w14 := S8.trans T2
   clear T2 S8
   have hwl : W.length = L.length := by rw [hWt, List.length_map]
   have hts : ∀ k, (W.getD k tk0).gText.size ≤ 1000000 := by intro k; rw [hWt, tk_text]; exact w_size hL (by rw [ls_length]; omega) k
   refine J.run 9 K15_29 [(42, .bool (decide ((W.length : Int) > 0))), (9, .slice wa W.length wc), (8, iv i), (7, iv fr), (6, iv ln), (5, .pointer (some ⟨b3, 0, none⟩)), (3, .pointer (some ⟨b2, 0, none⟩)), (2, .pointer (some ⟨b1, 0, none⟩)), (0, .string s)] w14 (by kernel_rfl) ?_
   by_cases fk7 : (W.length : Int) > 0
   rotate_left
   ·skip
    refine J.head (.bool false) (congrArg Value.bool (decide_eq_false fk7)) ?_
    refine J.run 6 K15_40 [(70, iv (IntKind.wrap .i64 (ln + 1))), (8, iv i), (5, .pointer (some ⟨b3, 0, none⟩)), (3, .pointer (some ⟨b2, 0, none⟩)), (2, .pointer (some ⟨b1, 0, none⟩)), (0, .string s)] w14 (by kernel_rfl) ?_
    refine J.head (iv (ln + 1)) (congrArg (Value.int .i64) (IntWalk.i64_in _ (by omega))) ?_
    refine J.run 5 K15_41 [(72, iv (IntKind.wrap .i64 (i + 1))), (6, iv (ln + 1)), (8, iv i), (5, .pointer (some ⟨b3, 0, none⟩)), (3, .pointer (some ⟨b2, 0, none⟩)), (2, .pointer (some ⟨b1, 0, none⟩)), (0, .string s)] w14 (by kernel_rfl) ?_
    refine J.head (iv (i + 1)) (congrArg (Value.int .i64) (IntWalk.i64_in _ (by omega))) ?_
    refine J.run 6 K15_42 [(23, iv (IntKind.wrap .i64 (i + 1))), (7, iv (i + 1)), (6, iv (ln + 1)), (5, .pointer (some ⟨b3, 0, none⟩)), (3, .pointer (some ⟨b2, 0, none⟩)), (2, .pointer (some ⟨b1, 0, none⟩)), (0, .string s)] w14 (by kernel_rfl) ?_
    refine J.head (iv (i + 1)) (congrArg (Value.int .i64) (IntWalk.i64_in _ (by omega))) ?_
    refine J.run 3 K15_5 [(8, iv (i + 1)), (7, iv (i + 1)), (6, iv (ln + 1)), (5, .pointer (some ⟨b3, 0, none⟩)), (3, .pointer (some ⟨b2, 0, none⟩)), (2, .pointer (some ⟨b1, 0, none⟩)), (0, .string s)] w14 (by kernel_rfl) ?_
    have S32 : Sep w (rowOf frmE ra rc 34 5 out :: box b3 [.slice ra out.length rc] 24 :: box b2 [iv 0, iv 0] 40 :: box b1 [.slice none 0 0] 24 :: tlF out) w14 := S21.erase 0
    clear S21
    refine J.run 0 K15_5 [(8, iv (i + 1)), (7, iv (i + 1)), (6, iv (ln + 1)), (5, .pointer (some ⟨b3, 0, none⟩)), (3, .pointer (some ⟨b2, 0, none⟩)), (2, .pointer (some ⟨b1, 0, none⟩)), (0, .string s)] w14 (by kernel_rfl) ?_
    exact ih1 _ (show ((s.size : Int) + 1 - (i + 1)).toNat < mm1 from by omega) ra rc out (ln + 1) (i + 1) (i + 1) w14 (by omega) (by omega) (by omega) (by omega) (by omega) (by omega) (hof) (fun y hy => Int.le_trans (hsl y hy) (by omega)) (fun k h1 h2 => by omega) (rp_skip hQ2 hL (List.eq_nil_of_length_eq_zero (by omega))) S32 rfl
   refine J.head (.bool true) (congrArg Value.bool (decide_eq_true fk7)) ?_
   refine J.run 8 K15_30 [(47, iv (IntKind.wrap .i64 (i - fr))), (44, iv ln), (43, .slice wa W.length wc), (8, iv i), (6, iv ln), (5, .pointer (some ⟨b3, 0, none⟩)), (3, .pointer (some ⟨b2, 0, none⟩)), (2, .pointer (some ⟨b1, 0, none⟩)), (0, .string s)] w14 (by kernel_rfl) ?_
   refine J.head (iv (i - fr)) (congrArg (Value.int .i64) (IntWalk.i64_in _ (by omega))) ?_
   refine J.run 1 K15_31 [(48, iv (IntKind.wrap .i64 ((i - fr) + 1))), (44, iv ln), (43, .slice wa W.length wc), (8, iv i), (6, iv ln), (5, .pointer (some ⟨b3, 0, none⟩)), (3, .pointer (some ⟨b2, 0, none⟩)), (2, .pointer (some ⟨b1, 0, none⟩)), (0, .string s)] w14 (by kernel_rfl) ?_
   refine J.head (iv ((i - fr) + 1)) (congrArg (Value.int .i64) (IntWalk.i64_in _ (by omega))) ?_
   refine J.run 2 K15_32 [(50, .agg #[.slice wa W.length wc, iv ln, iv ((i - fr) + 1), iv 0, iv 0, iv 0]), (8, iv i), (6, iv ln), (5, .pointer (some ⟨b3, 0, none⟩)), (3, .pointer (some ⟨b2, 0, none⟩)), (2, .pointer (some ⟨b1, 0, none⟩)), (0, .string s)] w14 (by kernel_rfl) ?_
   refine J.new S21 51 [.slice wa W.length wc, iv ln, iv ((i - fr) + 1), iv 0, iv 0, iv 0] 94 (by kernel_rfl) ?_
   intro b5 w15 S22
   refine J.run 5 K15_33 [(52, .pointer (some ⟨b5, 0, none⟩)), (10, .pointer (some ⟨b5, 0, none⟩)), (8, iv i), (6, iv ln), (5, .pointer (some ⟨b3, 0, none⟩)), (3, .pointer (some ⟨b2, 0, none⟩)), (2, .pointer (some ⟨b1, 0, none⟩)), (0, .string s)] w15 (by kernel_rfl) ?_
   refine J.ok (OK.ldBox S22 3 53 24 0 (.agg #[.slice ra out.length rc]) (by kernel_rfl) rfl (by kernel_rfl)) ?_
   have S23 : Sep w (box b5 [.slice wa (W.length - rs0.j) (wc - rs0.j), iv ln, iv ((i - fr) + 1), iv rs0.pl, iv rs0.pc, iv rs0.e] 94 :: rowOf tkE wa wc 109 4 W :: rowOf frmE ra rc 34 5 out :: box b3 [.slice ra out.length rc] 24 :: box b2 [iv 0, iv 0] 40 :: box b1 [.slice none 0 0] 24 :: tlF out) w15 := S22
   clear S22
   refine J.callF 54 45 #[.pointer (some ⟨b5, 0, none⟩), .agg #[.slice ra out.length rc]] hb45 (by kernel_rfl) (rline_any b5 wa wa wc W ln ((i - fr) + 1) rs0 ra rc out i _ [box b3 [.slice ra out.length rc] 24, box b2 [iv 0, iv 0] 40, box b1 [.slice none 0 0] 24] _ S23 (subP_zero wa wc) (Nat.zero_le _) hts hof (by omega) hsl (by omega)) ?_
   rintro _ w16 ⟨p1, r1, a1, c1, out1, hq1, hp1, hj1, hof1, hol1, hsl1, rfl, S24⟩
   clear S23
   have S25 : Sep w (box b5 [.slice p1 (W.length - r1.j) (wc - r1.j), iv ln, iv ((i - fr) + 1), iv r1.pl, iv r1.pc, iv r1.e] 94 :: rowOf tkE wa wc 109 4 W :: rowOf frmE a1 c1 34 5 out1 :: box b3 [.slice ra out.length rc] 24 :: box b2 [iv 0, iv 0] 40 :: box b1 [.slice none 0 0] 24 :: tlF out1) w16 := S24
   clear S24
   have hLne : L ≠ [] := fun e_ => by rw [e_, List.length_nil] at hwl; omega
   have hll := ln_line (L := L) (ln := ln) (e := ((i - fr) + 1)) (out := out) (by rw [← hWt]; exact hq1) hLne
   refine J.stBox S25 3 24 0 (.agg #[.slice a1 out1.length c1]) [.slice a1 out1.length c1] (box b5 [.slice p1 (W.length - r1.j) (wc - r1.j), iv ln, iv ((i - fr) + 1), iv r1.pl, iv r1.pc, iv r1.e] 94 :: rowOf tkE wa wc 109 4 W :: rowOf frmE a1 c1 34 5 out1 :: box b3 [.slice a1 out1.length c1] 24 :: box b2 [iv 0, iv 0] 40 :: box b1 [.slice none 0 0] 24 :: tlF out1) (by kernel_rfl) rfl (by kernel_rfl) (by kernel_rfl) rfl ?_
   intro w17 S26
   refine J.run 6 K15_34 [(57, .pointer (some ⟨b5, 5, none⟩)), (10, .pointer (some ⟨b5, 0, none⟩)), (8, iv i), (6, iv ln), (5, .pointer (some ⟨b3, 0, none⟩)), (3, .pointer (some ⟨b2, 0, none⟩)), (2, .pointer (some ⟨b1, 0, none⟩)), (0, .string s)] w17 (by kernel_rfl) ?_
   refine J.ok (OK.ldBox S26 0 58 3 5 (iv r1.e) (by kernel_rfl) rfl (by kernel_rfl)) ?_
   refine J.run 2 K15_35 [(59, .bool (r1.e != 0)), (10, .pointer (some ⟨b5, 0, none⟩)), (8, iv i), (6, iv ln), (5, .pointer (some ⟨b3, 0, none⟩)), (3, .pointer (some ⟨b2, 0, none⟩)), (2, .pointer (some ⟨b1, 0, none⟩)), (0, .string s)] w17 (by kernel_rfl) ?_
   by_cases fk8 : r1.e = 0
   ·skip
    refine J.head (.bool false) (congrArg Value.bool (bne_eq_false_iff_eq.2 fk8)) ?_
    refine J.run 6 K15_36 [(70, iv (IntKind.wrap .i64 (ln + 1))), (8, iv i), (5, .pointer (some ⟨b3, 0, none⟩)), (3, .pointer (some ⟨b2, 0, none⟩)), (2, .pointer (some ⟨b1, 0, none⟩)), (0, .string s)] w17 (by kernel_rfl) ?_
    refine J.head (iv (ln + 1)) (congrArg (Value.int .i64) (IntWalk.i64_in _ (by omega))) ?_
    refine J.run 5 K15_37 [(72, iv (IntKind.wrap .i64 (i + 1))), (6, iv (ln + 1)), (8, iv i), (5, .pointer (some ⟨b3, 0, none⟩)), (3, .pointer (some ⟨b2, 0, none⟩)), (2, .pointer (some ⟨b1, 0, none⟩)), (0, .string s)] w17 (by kernel_rfl) ?_
    refine J.head (iv (i + 1)) (congrArg (Value.int .i64) (IntWalk.i64_in _ (by omega))) ?_
    refine J.run 6 K15_38 [(23, iv (IntKind.wrap .i64 (i + 1))), (7, iv (i + 1)), (6, iv (ln + 1)), (5, .pointer (some ⟨b3, 0, none⟩)), (3, .pointer (some ⟨b2, 0, none⟩)), (2, .pointer (some ⟨b1, 0, none⟩)), (0, .string s)] w17 (by kernel_rfl) ?_
    refine J.head (iv (i + 1)) (congrArg (Value.int .i64) (IntWalk.i64_in _ (by omega))) ?_
    refine J.run 3 K15_5 [(8, iv (i + 1)), (7, iv (i + 1)), (6, iv (ln + 1)), (5, .pointer (some ⟨b3, 0, none⟩)), (3, .pointer (some ⟨b2, 0, none⟩)), (2, .pointer (some ⟨b1, 0, none⟩)), (0, .string s)] w17 (by kernel_rfl) ?_
    have S27 : Sep w (box b5 [.slice p1 (W.length - r1.j) (wc - r1.j), iv ln, iv ((i - fr) + 1), iv r1.pl, iv r1.pc, iv r1.e] 94 :: rowOf frmE a1 c1 34 5 out1 :: box b3 [.slice a1 out1.length c1] 24 :: box b2 [iv 0, iv 0] 40 :: box b1 [.slice none 0 0] 24 :: tlF out1) w17 := S26.erase 1
    clear S26
    have S28 : Sep w (rowOf frmE a1 c1 34 5 out1 :: box b3 [.slice a1 out1.length c1] 24 :: box b2 [iv 0, iv 0] 40 :: box b1 [.slice none 0 0] 24 :: tlF out1) w17 := S27.erase 0
    clear S27
    refine J.run 0 K15_5 [(8, iv (i + 1)), (7, iv (i + 1)), (6, iv (ln + 1)), (5, .pointer (some ⟨b3, 0, none⟩)), (3, .pointer (some ⟨b2, 0, none⟩)), (2, .pointer (some ⟨b1, 0, none⟩)), (0, .string s)] w17 (by kernel_rfl) ?_
    exact ih1 _ (show ((s.size : Int) + 1 - (i + 1)).toNat < mm1 from by omega) a1 c1 out1 (ln + 1) (i + 1) (i + 1) w17 (by omega) (by omega) (by omega) (by omega) (by omega) (by omega) (hof1) (hsl1) (fun k h1 h2 => by omega) (rp_ok hQ2 hL hLne (by omega) hll.1 fk8 hll.2) S28 rfl
   refine J.head (.bool true) (congrArg Value.bool (bne_iff_ne.2 fk8)) ?_
   refine J.run 2 K15_39 [(10, .pointer (some ⟨b5, 0, none⟩)), (3, .pointer (some ⟨b2, 0, none⟩)), (2, .pointer (some ⟨b1, 0, none⟩))] w17 (by kernel_rfl) ?_
   refine J.drawPlan (fun w_ => Sep w (box b5 [.slice p1 (W.length - r1.j) (wc - r1.j), iv ln, iv ((i - fr) + 1), iv r1.pl, iv r1.pc, iv r1.e] 94 :: rowOf tkE wa wc 109 4 W :: rowOf frmE a1 c1 34 5 out1 :: box b3 [.slice a1 out1.length c1] 24 :: box b1 [.slice none 0 0] 24 :: tlF out1) w_) [(0, true), (1, true), (2, true), (3, true), (4, true), (5, true), (6, true), (7, true), (8, true), (9, false), (10, false), (11, true)] S26 Tryd.mixed (by kernel_rfl) (planOK_of (T := [(0, some 60, 0), (0, some 61, 1024), (2, some 62, 2305843009213693952), (4, some 63, 4611686018427387904), (8, some 64, 9223372036854775808), (0, some 65, 1024), (32, some 66, 36893488147419103232), (64, some 67, 73786976294838206464), (128, some 68, 147573952589676412928), (1, none, 1152921504606846980), (543, none, 18446744073709551624), (2047, some 4, 295147905179352825856)]) (by kernel_rfl) (by kernel_rfl)) ?_
   intro w18 S29
   refine PB.mk (S29.erase 4) ?_
   refine PL.take 0 60 (.agg #[.slice none 0 0]) (fun _ _ => by kernel_rfl) ?_
   refine PL.take 1 61 (.pointer (some ⟨b5, 0, none⟩)) (fun _ _ => by kernel_rfl) ?_
   refine PL.take 2 62 (.pointer (some ⟨b5, 0, none⟩)) (fun _ _ => by kernel_rfl) ?_
   refine PL.take 3 63 (.pointer (some ⟨b5, 3, none⟩)) (fun _ _ => by kernel_rfl) ?_
   refine PL.takeOK 4 (fun w_ S_ => OK.ldBox S_ 0 64 40 3 (.agg #[iv r1.pl, iv r1.pc]) (by kernel_rfl) rfl (by kernel_rfl)) rfl ?_
   refine PL.take 5 65 (.pointer (some ⟨b5, 0, none⟩)) (fun _ _ => by kernel_rfl) ?_
   refine PL.take 6 66 (.pointer (some ⟨b5, 0, none⟩)) (fun _ _ => by kernel_rfl) ?_
   refine PL.take 7 67 (.pointer (some ⟨b5, 5, none⟩)) (fun _ _ => by kernel_rfl) ?_
   refine PL.takeOK 8 (fun w_ S_ => OK.ldBox S_ 0 68 3 5 (iv r1.e) (by kernel_rfl) rfl (by kernel_rfl)) rfl ?_
   refine PL.stBox S29 5 24 0 (.agg #[.slice none 0 0]) [.slice none 0 0] (box b5 [.slice p1 (W.length - r1.j) (wc - r1.j), iv ln, iv ((i - fr) + 1), iv r1.pl, iv r1.pc, iv r1.e] 94 :: rowOf tkE wa wc 109 4 W :: rowOf frmE a1 c1 34 5 out1 :: box b3 [.slice a1 out1.length c1] 24 :: box b2 [iv 0, iv 0] 40 :: box b1 [.slice none 0 0] 24 :: tlF out1) (by kernel_rfl) rfl (by kernel_rfl) (by kernel_rfl) rfl ?_
   intro w19 S30
   refine PB.mk (S30.erase 4) ?_
   refine PL.stBox S30 4 40 0 (.agg #[iv r1.pl, iv r1.pc]) [iv r1.pl, iv r1.pc] (box b5 [.slice p1 (W.length - r1.j) (wc - r1.j), iv ln, iv ((i - fr) + 1), iv r1.pl, iv r1.pc, iv r1.e] 94 :: rowOf tkE wa wc 109 4 W :: rowOf frmE a1 c1 34 5 out1 :: box b3 [.slice a1 out1.length c1] 24 :: box b2 [iv r1.pl, iv r1.pc] 40 :: box b1 [.slice none 0 0] 24 :: tlF out1) (by kernel_rfl) rfl (by kernel_rfl) (by kernel_rfl) rfl ?_
   intro w20 S31
   refine PB.mk (S31.erase 4) ?_
   refine PL.take 11 4 (iv r1.e) (fun _ _ => by kernel_rfl) ?_
   refine PL.done ?_
   refine J.run 0 (rRest K15_39) [(4, iv r1.e), (3, .pointer (some ⟨b2, 0, none⟩)), (2, .pointer (some ⟨b1, 0, none⟩))] w20 (by kernel_rfl) ?_
   refine J.ret Tryd.f15 [.agg #[.slice none 0 0], .agg #[iv r1.pl, iv r1.pc], iv r1.e] Tryd.func15 ⟨⟨⟨b1, 0, none⟩, by kernel_rfl, ldV_run (S31.nth 5 rfl) (by kernel_rfl)⟩, ⟨⟨b2, 0, none⟩, by kernel_rfl, ldV_run (S31.nth 4 rfl) (by kernel_rfl)⟩, by kernel_rfl, trivial⟩ ?_
   refine hR _ _ ?_
   exact bad_post (rp_bad hQ2 hL hLne (by omega) hll.1 fk8) S31
  refine J.head (.bool true) (congrArg Value.bool (decide_eq_true fk3)) ?_
  refine J.run 2 K15_8 [(30, iv i), (29, .string s), (28, .bool true), (8, iv i), (7, iv fr), (6, iv ln), (5, .pointer (some ⟨b3, 0, none⟩)), (3, .pointer (some ⟨b2, 0, none⟩)), (2, .pointer (some ⟨b1, 0, none⟩)), (0, .string s)] w6 (by kernel_rfl) ?_
  have := byteAt_bounds s (i).toNat
  refine J.ok (OK.byte 31 9 s i (byteAt s (i).toNat) (by kernel_rfl) (by kernel_rfl) (by omega) (by omega) (rfl)) ?_
  refine J.run 3 K15_9 [(33, .bool ((byteAt s (i).toNat) != 10)), (8, iv i), (7, iv fr), (6, iv ln), (5, .pointer (some ⟨b3, 0, none⟩)), (3, .pointer (some ⟨b2, 0, none⟩)), (2, .pointer (some ⟨b1, 0, none⟩)), (0, .string s)] w6 (by kernel_rfl) ?_
  by_cases fk4 : (byteAt s (i).toNat) = 10
  rotate_left
  ·skip
   refine J.head (.bool true) (congrArg Value.bool (bne_iff_ne.2 fk4)) ?_
   refine J.run 5 K15_26 [(23, iv (IntKind.wrap .i64 (i + 1))), (7, iv fr), (6, iv ln), (5, .pointer (some ⟨b3, 0, none⟩)), (3, .pointer (some ⟨b2, 0, none⟩)), (2, .pointer (some ⟨b1, 0, none⟩)), (0, .string s)] w6 (by kernel_rfl) ?_
   refine J.head (iv (i + 1)) (congrArg (Value.int .i64) (IntWalk.i64_in _ (by omega))) ?_
   refine J.run 3 K15_5 [(8, iv (i + 1)), (7, iv fr), (6, iv ln), (5, .pointer (some ⟨b3, 0, none⟩)), (3, .pointer (some ⟨b2, 0, none⟩)), (2, .pointer (some ⟨b1, 0, none⟩)), (0, .string s)] w6 (by kernel_rfl) ?_
   refine J.run 0 K15_5 [(8, iv (i + 1)), (7, iv fr), (6, iv ln), (5, .pointer (some ⟨b3, 0, none⟩)), (3, .pointer (some ⟨b2, 0, none⟩)), (2, .pointer (some ⟨b1, 0, none⟩)), (0, .string s)] w6 (by kernel_rfl) ?_
   exact ih1 _ (show ((s.size : Int) + 1 - (i + 1)).toNat < mm1 from by omega) ra rc out ln fr (i + 1) w6 (by omega) (by omega) (by omega) (by omega) (by omega) (by omega) (hof) (fun y hy => Int.le_trans (hsl y hy) (by omega)) (ns_step hns (by omega)) (hQ) S8 rfl
  refine J.head (.bool false) (congrArg Value.bool (bne_eq_false_iff_eq.2 fk4)) ?_
  refine J.run 7 K15_10 [(36, iv i), (35, iv fr), (34, .string s), (8, iv i), (7, iv fr), (6, iv ln), (5, .pointer (some ⟨b3, 0, none⟩)), (3, .pointer (some ⟨b2, 0, none⟩)), (2, .pointer (some ⟨b1, 0, none⟩)), (0, .string s)] w6 (by kernel_rfl) ?_
  refine J.ok (OK.sliceT 37 9 s (some (iv fr)) (some (iv i)) ((fr).toNat) ((i).toNat) (by kernel_rfl) (by kernel_rfl) (.inr ⟨_, _, rfl, by omega⟩) (.inr ⟨_, _, rfl, by omega⟩) (by first | omega | (simp; omega)) (by first | omega | (simp; omega))) ?_
  have := size_extract s (i := (fr).toNat) (j := (i).toNat) (by first | omega | (simp; omega))
  refine J.run 1 K15_11 [(38, iv ln), (37, .string (s.extract ((fr).toNat) ((i).toNat))), (8, iv i), (7, iv fr), (6, iv ln), (5, .pointer (some ⟨b3, 0, none⟩)), (3, .pointer (some ⟨b2, 0, none⟩)), (2, .pointer (some ⟨b1, 0, none⟩)), (0, .string s)] w6 (by kernel_rfl) ?_
  have hQ2 : parsF s = parP (ls (s.extract ((fr).toNat) ((i).toNat)) :: pcs s (i + 1)) ln (out.map clF) := by rw [← pcs_cons h0 hfi (by omega) hns (fun h_ => by omega)]; exact hQ
  refine J.callF 39 44 #[.string (s.extract ((fr).toNat) ((i).toNat)), iv ln] hb44 (by kernel_rfl) (rwords_any2 (s.extract ((fr).toNat) ((i).toNat)) ln _ (by omega) (by omega)) ?_
  rintro _ w7 ⟨L, hL, W, hWt, wa, wc, rfl, T1⟩
  have S9 : Sep w (rowOf tkE wa wc 109 4 W :: rowOf frmE ra rc 34 5 out :: box b3 [.slice ra out.length rc] 24 :: box b2 [iv 0, iv 0] 40 :: box b1 [.slice none 0 0] 24 :: tlF out) w7 := S8.trans T1
  clear T1 S8
  have hwl : W.length = L.length := by rw [hWt, List.length_map]
  have hts : ∀ k, (W.getD k tk0).gText.size ≤ 1000000 := by intro k; rw [hWt, tk_text]; exact w_size hL (by rw [ls_length]; omega) k
  refine J.run 9 K15_12 [(42, .bool (decide ((W.length : Int) > 0))), (9, .slice wa W.length wc), (8, iv i), (7, iv fr), (6, iv ln), (5, .pointer (some ⟨b3, 0, none⟩)), (3, .pointer (some ⟨b2, 0, none⟩)), (2, .pointer (some ⟨b1, 0, none⟩)), (0, .string s)] w7 (by kernel_rfl) ?_
  by_cases fk5 : (W.length : Int) > 0
  rotate_left
  ·skip
   refine J.head (.bool false) (congrArg Value.bool (decide_eq_false fk5)) ?_
   refine J.run 6 K15_23 [(70, iv (IntKind.wrap .i64 (ln + 1))), (8, iv i), (5, .pointer (some ⟨b3, 0, none⟩)), (3, .pointer (some ⟨b2, 0, none⟩)), (2, .pointer (some ⟨b1, 0, none⟩)), (0, .string s)] w7 (by kernel_rfl) ?_
   refine J.head (iv (ln + 1)) (congrArg (Value.int .i64) (IntWalk.i64_in _ (by omega))) ?_
   refine J.run 5 K15_24 [(72, iv (IntKind.wrap .i64 (i + 1))), (6, iv (ln + 1)), (8, iv i), (5, .pointer (some ⟨b3, 0, none⟩)), (3, .pointer (some ⟨b2, 0, none⟩)), (2, .pointer (some ⟨b1, 0, none⟩)), (0, .string s)] w7 (by kernel_rfl) ?_
   refine J.head (iv (i + 1)) (congrArg (Value.int .i64) (IntWalk.i64_in _ (by omega))) ?_
   refine J.run 6 K15_25 [(23, iv (IntKind.wrap .i64 (i + 1))), (7, iv (i + 1)), (6, iv (ln + 1)), (5, .pointer (some ⟨b3, 0, none⟩)), (3, .pointer (some ⟨b2, 0, none⟩)), (2, .pointer (some ⟨b1, 0, none⟩)), (0, .string s)] w7 (by kernel_rfl) ?_
   refine J.head (iv (i + 1)) (congrArg (Value.int .i64) (IntWalk.i64_in _ (by omega))) ?_
   refine J.run 3 K15_5 [(8, iv (i + 1)), (7, iv (i + 1)), (6, iv (ln + 1)), (5, .pointer (some ⟨b3, 0, none⟩)), (3, .pointer (some ⟨b2, 0, none⟩)), (2, .pointer (some ⟨b1, 0, none⟩)), (0, .string s)] w7 (by kernel_rfl) ?_
   have S20 : Sep w (rowOf frmE ra rc 34 5 out :: box b3 [.slice ra out.length rc] 24 :: box b2 [iv 0, iv 0] 40 :: box b1 [.slice none 0 0] 24 :: tlF out) w7 := S9.erase 0
   clear S9
   refine J.run 0 K15_5 [(8, iv (i + 1)), (7, iv (i + 1)), (6, iv (ln + 1)), (5, .pointer (some ⟨b3, 0, none⟩)), (3, .pointer (some ⟨b2, 0, none⟩)), (2, .pointer (some ⟨b1, 0, none⟩)), (0, .string s)] w7 (by kernel_rfl) ?_
   exact ih1 _ (show ((s.size : Int) + 1 - (i + 1)).toNat < mm1 from by omega) ra rc out (ln + 1) (i + 1) (i + 1) w7 (by omega) (by omega) (by omega) (by omega) (by omega) (by omega) (hof) (fun y hy => Int.le_trans (hsl y hy) (by omega)) (fun k h1 h2 => by omega) (rp_skip hQ2 hL (List.eq_nil_of_length_eq_zero (by omega))) S20 rfl
  refine J.head (.bool true) (congrArg Value.bool (decide_eq_true fk5)) ?_
  refine J.run 8 K15_13 [(47, iv (IntKind.wrap .i64 (i - fr))), (44, iv ln), (43, .slice wa W.length wc), (8, iv i), (6, iv ln), (5, .pointer (some ⟨b3, 0, none⟩)), (3, .pointer (some ⟨b2, 0, none⟩)), (2, .pointer (some ⟨b1, 0, none⟩)), (0, .string s)] w7 (by kernel_rfl) ?_
  refine J.head (iv (i - fr)) (congrArg (Value.int .i64) (IntWalk.i64_in _ (by omega))) ?_
  refine J.run 1 K15_14 [(48, iv (IntKind.wrap .i64 ((i - fr) + 1))), (44, iv ln), (43, .slice wa W.length wc), (8, iv i), (6, iv ln), (5, .pointer (some ⟨b3, 0, none⟩)), (3, .pointer (some ⟨b2, 0, none⟩)), (2, .pointer (some ⟨b1, 0, none⟩)), (0, .string s)] w7 (by kernel_rfl) ?_
  refine J.head (iv ((i - fr) + 1)) (congrArg (Value.int .i64) (IntWalk.i64_in _ (by omega))) ?_
  refine J.run 2 K15_15 [(50, .agg #[.slice wa W.length wc, iv ln, iv ((i - fr) + 1), iv 0, iv 0, iv 0]), (8, iv i), (6, iv ln), (5, .pointer (some ⟨b3, 0, none⟩)), (3, .pointer (some ⟨b2, 0, none⟩)), (2, .pointer (some ⟨b1, 0, none⟩)), (0, .string s)] w7 (by kernel_rfl) ?_
  refine J.new S9 51 [.slice wa W.length wc, iv ln, iv ((i - fr) + 1), iv 0, iv 0, iv 0] 94 (by kernel_rfl) ?_
  intro b4 w8 S10
  refine J.run 5 K15_16 [(52, .pointer (some ⟨b4, 0, none⟩)), (10, .pointer (some ⟨b4, 0, none⟩)), (8, iv i), (6, iv ln), (5, .pointer (some ⟨b3, 0, none⟩)), (3, .pointer (some ⟨b2, 0, none⟩)), (2, .pointer (some ⟨b1, 0, none⟩)), (0, .string s)] w8 (by kernel_rfl) ?_
  refine J.ok (OK.ldBox S10 3 53 24 0 (.agg #[.slice ra out.length rc]) (by kernel_rfl) rfl (by kernel_rfl)) ?_
  have S11 : Sep w (box b4 [.slice wa (W.length - rs0.j) (wc - rs0.j), iv ln, iv ((i - fr) + 1), iv rs0.pl, iv rs0.pc, iv rs0.e] 94 :: rowOf tkE wa wc 109 4 W :: rowOf frmE ra rc 34 5 out :: box b3 [.slice ra out.length rc] 24 :: box b2 [iv 0, iv 0] 40 :: box b1 [.slice none 0 0] 24 :: tlF out) w8 := S10
  clear S10
  refine J.callF 54 45 #[.pointer (some ⟨b4, 0, none⟩), .agg #[.slice ra out.length rc]] hb45 (by kernel_rfl) (rline_any b4 wa wa wc W ln ((i - fr) + 1) rs0 ra rc out i _ [box b3 [.slice ra out.length rc] 24, box b2 [iv 0, iv 0] 40, box b1 [.slice none 0 0] 24] _ S11 (subP_zero wa wc) (Nat.zero_le _) hts hof (by omega) hsl (by omega)) ?_
  rintro _ w9 ⟨p1, r1, a1, c1, out1, hq1, hp1, hj1, hof1, hol1, hsl1, rfl, S12⟩
  clear S11
  have S13 : Sep w (box b4 [.slice p1 (W.length - r1.j) (wc - r1.j), iv ln, iv ((i - fr) + 1), iv r1.pl, iv r1.pc, iv r1.e] 94 :: rowOf tkE wa wc 109 4 W :: rowOf frmE a1 c1 34 5 out1 :: box b3 [.slice ra out.length rc] 24 :: box b2 [iv 0, iv 0] 40 :: box b1 [.slice none 0 0] 24 :: tlF out1) w9 := S12
  clear S12
  have hLne : L ≠ [] := fun e_ => by rw [e_, List.length_nil] at hwl; omega
  have hll := ln_line (L := L) (ln := ln) (e := ((i - fr) + 1)) (out := out) (by rw [← hWt]; exact hq1) hLne
  refine J.stBox S13 3 24 0 (.agg #[.slice a1 out1.length c1]) [.slice a1 out1.length c1] (box b4 [.slice p1 (W.length - r1.j) (wc - r1.j), iv ln, iv ((i - fr) + 1), iv r1.pl, iv r1.pc, iv r1.e] 94 :: rowOf tkE wa wc 109 4 W :: rowOf frmE a1 c1 34 5 out1 :: box b3 [.slice a1 out1.length c1] 24 :: box b2 [iv 0, iv 0] 40 :: box b1 [.slice none 0 0] 24 :: tlF out1) (by kernel_rfl) rfl (by kernel_rfl) (by kernel_rfl) rfl ?_
  intro w10 S14
  refine J.run 6 K15_17 [(57, .pointer (some ⟨b4, 5, none⟩)), (10, .pointer (some ⟨b4, 0, none⟩)), (8, iv i), (6, iv ln), (5, .pointer (some ⟨b3, 0, none⟩)), (3, .pointer (some ⟨b2, 0, none⟩)), (2, .pointer (some ⟨b1, 0, none⟩)), (0, .string s)] w10 (by kernel_rfl) ?_
  refine J.ok (OK.ldBox S14 0 58 3 5 (iv r1.e) (by kernel_rfl) rfl (by kernel_rfl)) ?_
  refine J.run 2 K15_18 [(59, .bool (r1.e != 0)), (10, .pointer (some ⟨b4, 0, none⟩)), (8, iv i), (6, iv ln), (5, .pointer (some ⟨b3, 0, none⟩)), (3, .pointer (some ⟨b2, 0, none⟩)), (2, .pointer (some ⟨b1, 0, none⟩)), (0, .string s)] w10 (by kernel_rfl) ?_
  by_cases fk6 : r1.e = 0
  ·skip
   refine J.head (.bool false) (congrArg Value.bool (bne_eq_false_iff_eq.2 fk6)) ?_
   refine J.run 6 K15_19 [(70, iv (IntKind.wrap .i64 (ln + 1))), (8, iv i), (5, .pointer (some ⟨b3, 0, none⟩)), (3, .pointer (some ⟨b2, 0, none⟩)), (2, .pointer (some ⟨b1, 0, none⟩)), (0, .string s)] w10 (by kernel_rfl) ?_
   refine J.head (iv (ln + 1)) (congrArg (Value.int .i64) (IntWalk.i64_in _ (by omega))) ?_
   refine J.run 5 K15_20 [(72, iv (IntKind.wrap .i64 (i + 1))), (6, iv (ln + 1)), (8, iv i), (5, .pointer (some ⟨b3, 0, none⟩)), (3, .pointer (some ⟨b2, 0, none⟩)), (2, .pointer (some ⟨b1, 0, none⟩)), (0, .string s)] w10 (by kernel_rfl) ?_
   refine J.head (iv (i + 1)) (congrArg (Value.int .i64) (IntWalk.i64_in _ (by omega))) ?_
   refine J.run 6 K15_21 [(23, iv (IntKind.wrap .i64 (i + 1))), (7, iv (i + 1)), (6, iv (ln + 1)), (5, .pointer (some ⟨b3, 0, none⟩)), (3, .pointer (some ⟨b2, 0, none⟩)), (2, .pointer (some ⟨b1, 0, none⟩)), (0, .string s)] w10 (by kernel_rfl) ?_
   refine J.head (iv (i + 1)) (congrArg (Value.int .i64) (IntWalk.i64_in _ (by omega))) ?_
   refine J.run 3 K15_5 [(8, iv (i + 1)), (7, iv (i + 1)), (6, iv (ln + 1)), (5, .pointer (some ⟨b3, 0, none⟩)), (3, .pointer (some ⟨b2, 0, none⟩)), (2, .pointer (some ⟨b1, 0, none⟩)), (0, .string s)] w10 (by kernel_rfl) ?_
   have S15 : Sep w (box b4 [.slice p1 (W.length - r1.j) (wc - r1.j), iv ln, iv ((i - fr) + 1), iv r1.pl, iv r1.pc, iv r1.e] 94 :: rowOf frmE a1 c1 34 5 out1 :: box b3 [.slice a1 out1.length c1] 24 :: box b2 [iv 0, iv 0] 40 :: box b1 [.slice none 0 0] 24 :: tlF out1) w10 := S14.erase 1
   clear S14
   have S16 : Sep w (rowOf frmE a1 c1 34 5 out1 :: box b3 [.slice a1 out1.length c1] 24 :: box b2 [iv 0, iv 0] 40 :: box b1 [.slice none 0 0] 24 :: tlF out1) w10 := S15.erase 0
   clear S15
   refine J.run 0 K15_5 [(8, iv (i + 1)), (7, iv (i + 1)), (6, iv (ln + 1)), (5, .pointer (some ⟨b3, 0, none⟩)), (3, .pointer (some ⟨b2, 0, none⟩)), (2, .pointer (some ⟨b1, 0, none⟩)), (0, .string s)] w10 (by kernel_rfl) ?_
   exact ih1 _ (show ((s.size : Int) + 1 - (i + 1)).toNat < mm1 from by omega) a1 c1 out1 (ln + 1) (i + 1) (i + 1) w10 (by omega) (by omega) (by omega) (by omega) (by omega) (by omega) (hof1) (hsl1) (fun k h1 h2 => by omega) (rp_ok hQ2 hL hLne (by omega) hll.1 fk6 hll.2) S16 rfl
  refine J.head (.bool true) (congrArg Value.bool (bne_iff_ne.2 fk6)) ?_
  refine J.run 2 K15_22 [(10, .pointer (some ⟨b4, 0, none⟩)), (3, .pointer (some ⟨b2, 0, none⟩)), (2, .pointer (some ⟨b1, 0, none⟩))] w10 (by kernel_rfl) ?_
  refine J.drawPlan (fun w_ => Sep w (box b4 [.slice p1 (W.length - r1.j) (wc - r1.j), iv ln, iv ((i - fr) + 1), iv r1.pl, iv r1.pc, iv r1.e] 94 :: rowOf tkE wa wc 109 4 W :: rowOf frmE a1 c1 34 5 out1 :: box b3 [.slice a1 out1.length c1] 24 :: box b1 [.slice none 0 0] 24 :: tlF out1) w_) [(0, true), (1, true), (2, true), (3, true), (4, true), (5, true), (6, true), (7, true), (8, true), (9, false), (10, false), (11, true)] S14 Tryd.mixed (by kernel_rfl) (planOK_of (T := [(0, some 60, 0), (0, some 61, 1024), (2, some 62, 2305843009213693952), (4, some 63, 4611686018427387904), (8, some 64, 9223372036854775808), (0, some 65, 1024), (32, some 66, 36893488147419103232), (64, some 67, 73786976294838206464), (128, some 68, 147573952589676412928), (1, none, 1152921504606846980), (543, none, 18446744073709551624), (2047, some 4, 295147905179352825856)]) (by kernel_rfl) (by kernel_rfl)) ?_
  intro w11 S17
  refine PB.mk (S17.erase 4) ?_
  refine PL.take 0 60 (.agg #[.slice none 0 0]) (fun _ _ => by kernel_rfl) ?_
  refine PL.take 1 61 (.pointer (some ⟨b4, 0, none⟩)) (fun _ _ => by kernel_rfl) ?_
  refine PL.take 2 62 (.pointer (some ⟨b4, 0, none⟩)) (fun _ _ => by kernel_rfl) ?_
  refine PL.take 3 63 (.pointer (some ⟨b4, 3, none⟩)) (fun _ _ => by kernel_rfl) ?_
  refine PL.takeOK 4 (fun w_ S_ => OK.ldBox S_ 0 64 40 3 (.agg #[iv r1.pl, iv r1.pc]) (by kernel_rfl) rfl (by kernel_rfl)) rfl ?_
  refine PL.take 5 65 (.pointer (some ⟨b4, 0, none⟩)) (fun _ _ => by kernel_rfl) ?_
  refine PL.take 6 66 (.pointer (some ⟨b4, 0, none⟩)) (fun _ _ => by kernel_rfl) ?_
  refine PL.take 7 67 (.pointer (some ⟨b4, 5, none⟩)) (fun _ _ => by kernel_rfl) ?_
  refine PL.takeOK 8 (fun w_ S_ => OK.ldBox S_ 0 68 3 5 (iv r1.e) (by kernel_rfl) rfl (by kernel_rfl)) rfl ?_
  refine PL.stBox S17 5 24 0 (.agg #[.slice none 0 0]) [.slice none 0 0] (box b4 [.slice p1 (W.length - r1.j) (wc - r1.j), iv ln, iv ((i - fr) + 1), iv r1.pl, iv r1.pc, iv r1.e] 94 :: rowOf tkE wa wc 109 4 W :: rowOf frmE a1 c1 34 5 out1 :: box b3 [.slice a1 out1.length c1] 24 :: box b2 [iv 0, iv 0] 40 :: box b1 [.slice none 0 0] 24 :: tlF out1) (by kernel_rfl) rfl (by kernel_rfl) (by kernel_rfl) rfl ?_
  intro w12 S18
  refine PB.mk (S18.erase 4) ?_
  refine PL.stBox S18 4 40 0 (.agg #[iv r1.pl, iv r1.pc]) [iv r1.pl, iv r1.pc] (box b4 [.slice p1 (W.length - r1.j) (wc - r1.j), iv ln, iv ((i - fr) + 1), iv r1.pl, iv r1.pc, iv r1.e] 94 :: rowOf tkE wa wc 109 4 W :: rowOf frmE a1 c1 34 5 out1 :: box b3 [.slice a1 out1.length c1] 24 :: box b2 [iv r1.pl, iv r1.pc] 40 :: box b1 [.slice none 0 0] 24 :: tlF out1) (by kernel_rfl) rfl (by kernel_rfl) (by kernel_rfl) rfl ?_
  intro w13 S19
  refine PB.mk (S19.erase 4) ?_
  refine PL.take 11 4 (iv r1.e) (fun _ _ => by kernel_rfl) ?_
  refine PL.done ?_
  refine J.run 0 (rRest K15_22) [(4, iv r1.e), (3, .pointer (some ⟨b2, 0, none⟩)), (2, .pointer (some ⟨b1, 0, none⟩))] w13 (by kernel_rfl) ?_
  refine J.ret Tryd.f15 [.agg #[.slice none 0 0], .agg #[iv r1.pl, iv r1.pc], iv r1.e] Tryd.func15 ⟨⟨⟨b1, 0, none⟩, by kernel_rfl, ldV_run (S19.nth 5 rfl) (by kernel_rfl)⟩, ⟨⟨b2, 0, none⟩, by kernel_rfl, ldV_run (S19.nth 4 rfl) (by kernel_rfl)⟩, by kernel_rfl, trivial⟩ ?_
  refine hR _ _ ?_
  exact bad_post (rp_bad hQ2 hL hLne (by omega) hll.1 fk6) S19
 exact L15_1 _ none 0 ([]) 1 0 0 w5 (by omega) (by omega) (by omega) (by omega) (by omega) (by simp) (fun y hy => by cases hy) (fun y hy => by cases hy) (fun k h1 h2 => by omega) (by rw [pcs_first]; unfold parsF; rw [if_neg (by omega)]; rfl) S7 rfl

end
end Go.Proofs.YthiklimfffhbaaaDoor

