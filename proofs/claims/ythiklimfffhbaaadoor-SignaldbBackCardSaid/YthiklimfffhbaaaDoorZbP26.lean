/- Walks of functions of this seat, printed by a program over the engine. Conditions: as each theorem says. -/
import Derived.Test.YthiklimfffhbaaaDoorZbP25
namespace Go.Proofs.YthiklimfffhbaaaDoor
noncomputable section
open Go.Eng Go.RowKit
set_option linter.unusedSimpArgs false
set_option linter.unusedVariables false
def K5_0 := adv 2 [] (bodyOf Tryd.f5)
def K5_1 := adv 5 [] (popK K5_0)
def K5_2 := adv 7 [false] (popK K5_1)
def K5_3 := adv 2 [] (popK (popK K5_2))
def K5_4 := adv 5 [] K5_3
def K5_5 := adv 5 [true] K5_4
def K5_6 := adv 5 [false] K5_4
def K5_7 := adv 11 [] (popK (popK K5_6))
def K5_8 := adv 4 [true] K5_7
def K5_9 := adv 4 [] (popK K5_8)
def K5_10 := adv 7 [] (popK (popK (popK (popK K5_9))))
def K5_11 := adv 1 [] (popK K5_10)
def K5_12 := adv 2 [] (popK K5_11)
def K5_13 := adv 8 [false] (popK (popK (popK K5_12)))
def K5_14 := adv 4 [] (popK K5_13)
def K5_15 := adv 8 [] (popK (popK (popK (popK K5_14))))
def K5_16 := adv 4 [false] K5_15
def K5_17 := adv 12 [] (popK (popK K5_16))
def K5_18 := adv 5 [false] K5_17
def K5_19 := adv 4 [] (popK K5_18)
def K5_20 := adv 4 [] (popK (popK (popK (popK K5_19))))
def K5_21 := adv 1 [] (popK (popK K5_20))
def K5_22 := adv 4 [] K5_21
def K5_23 := adv 3 [] (popK (popK (popK K5_22)))
def K5_24 := adv 6 [true] K5_17
def K5_25 := adv 3 [] (popK (popK K5_24))
def K5_26 := adv 4 [true] K5_15
def K5_27 := adv 4 [] (popK K5_26)
def K5_28 := adv 5 [false] K5_7
def K5_29 := adv 1 [] K5_28
def K5_30 := adv 3 [] K5_29
def K5_31 := adv 3 [] (popK (popK K5_30))
def K5_32 := adv 5 [false] K5_31
def K5_33 := adv 4 [] (popK K5_32)
def K5_34 := adv 8 [] (popK (popK (popK (popK K5_33))))
def K5_35 := adv 4 [false] K5_34
def K5_36 := adv 12 [] (popK (popK K5_35))
def K5_37 := adv 5 [false] K5_36
def K5_38 := adv 4 [] (popK K5_37)
def K5_39 := adv 4 [] (popK (popK (popK (popK K5_38))))
def K5_40 := adv 1 [] (popK (popK K5_39))
def K5_41 := adv 4 [] K5_40
def K5_42 := adv 3 [] (popK (popK (popK K5_41)))
def K5_43 := adv 6 [true] K5_36
def K5_44 := adv 3 [] (popK (popK K5_43))
def K5_45 := adv 4 [true] K5_34
def K5_46 := adv 4 [] (popK K5_45)
def K5_47 := adv 10 [false] K5_30
def K5_48 := adv 4 [] (popK K5_47)
def K5_49 := adv 8 [] (popK (popK (popK (popK K5_48))))
def K5_50 := adv 4 [false] K5_49
def K5_51 := adv 12 [] (popK (popK K5_50))
def K5_52 := adv 5 [false] K5_51
def K5_53 := adv 4 [] (popK K5_52)
def K5_54 := adv 4 [] (popK (popK (popK (popK K5_53))))
def K5_55 := adv 1 [] (popK (popK K5_54))
def K5_56 := adv 4 [] K5_55
def K5_57 := adv 3 [] (popK (popK (popK K5_56)))
def K5_58 := adv 6 [true] K5_51
def K5_59 := adv 3 [] (popK (popK K5_58))
def K5_60 := adv 4 [true] K5_49
def K5_61 := adv 4 [] (popK K5_60)
def K5_62 := adv 10 [true] K5_3
set_option maxRecDepth 20000 in
set_option maxHeartbeats 20000000 in
theorem lawback_any (d : Db) (s : ByteArray) (w : World) (hd : dbQ w d) (hs : s.size ≤ 9223372036854775807) (hW : TabW w) : Ret Tryd.prog 5 #[.agg #[.slice d.gFrames_a d.gFrames_n d.gFrames_c], .string s] w (fun v w' => v = .bool true ∧ Sep w [] w') := by
 have S0 := Sep.refl w
 refine Ret.named fun R hR => ?_
 refine Ret.of_J (N := 106) [(0, .agg #[.slice d.gFrames_a d.gFrames_n d.gFrames_c]), (1, .string s)] Tryd.func5 rfl rfl (Nat.le_of_ble_eq_true (by kernel_rfl)) (by kernel_rfl) ?_
 obtain ⟨q1, q2, q3, _⟩ := id hd
 have ql1 := q2.len_eq
 refine J.run 2 K5_0 [(0, .agg #[.slice d.gFrames_a d.gFrames_n d.gFrames_c]), (1, .string s)] w (by kernel_rfl) ?_
 refine J.new S0 2 [.slice d.gFrames_a d.gFrames_n d.gFrames_c] 24 (by kernel_rfl) ?_
 intro b1 w1 S1
 refine J.run 5 K5_1 [(2, .pointer (some ⟨b1, 0, none⟩)), (1, .string s)] w1 (by kernel_rfl) ?_
 refine J.callF 18 7 #[] hb7 (by kernel_rfl) (awake_any  _) ?_
 rintro _ w2 ⟨rfl, T1⟩
 have S2 : Sep w [box b1 [.slice d.gFrames_a d.gFrames_n d.gFrames_c] 24] w2 := S1.trans T1
 clear T1 S1
 refine J.run 7 K5_2 [(2, .pointer (some ⟨b1, 0, none⟩)), (1, .string s)] w2 (by kernel_rfl) ?_
 refine J.ok (OK.ldBox S2 0 20 24 0 (.agg #[.slice d.gFrames_a d.gFrames_n d.gFrames_c]) (by kernel_rfl) rfl (by kernel_rfl)) ?_
 refine J.callF 21 8 #[.agg #[.slice d.gFrames_a d.gFrames_n d.gFrames_c]] hb8 (by kernel_rfl) (few_any d _ (dbQ_sep hd S2)) ?_
 rintro _ w3 ⟨rfl, T2⟩
 have S3 : Sep w [box b1 [.slice d.gFrames_a d.gFrames_n d.gFrames_c] 24] w3 := S2.trans T2
 clear T2 S2
 refine J.run 2 K5_3 [(23, .bool (!(fewB d))), (2, .pointer (some ⟨b1, 0, none⟩)), (1, .string s)] w3 (by kernel_rfl) ?_
 rcases Bool.eq_false_or_eq_true (fewB d) with fk1 | fk1
 rotate_left
 ·skip
  refine J.head (.bool true) (congrArg Value.bool (by rw [fk1]; rfl)) ?_
  refine J.run 10 K5_62 [(4, .bool true)] w3 (by kernel_rfl) ?_
  refine J.ret Tryd.f5 [.bool true] Tryd.func5 ⟨by kernel_rfl, trivial⟩ ?_
  refine hR _ _ ?_
  exact ⟨rfl, S3.nil⟩
 refine J.head (.bool false) (congrArg Value.bool (by rw [fk1]; rfl)) ?_
 refine J.run 5 K5_4 [(27, .bool (decide ((s.size : Int) > 3000))), (2, .pointer (some ⟨b1, 0, none⟩)), (1, .string s)] w3 (by kernel_rfl) ?_
 by_cases fk2 : (s.size : Int) > 3000
 ·skip
  refine J.head (.bool true) (congrArg Value.bool (decide_eq_true fk2)) ?_
  refine J.run 5 K5_5 [(4, .bool true)] w3 (by kernel_rfl) ?_
  refine J.ret Tryd.f5 [.bool true] Tryd.func5 ⟨by kernel_rfl, trivial⟩ ?_
  refine hR _ _ ?_
  exact ⟨rfl, S3.nil⟩
 refine J.head (.bool false) (congrArg Value.bool (decide_eq_false fk2)) ?_
 refine J.run 5 K5_6 [(2, .pointer (some ⟨b1, 0, none⟩)), (1, .string s)] w3 (by kernel_rfl) ?_
 refine J.ok (OK.ldBox S3 0 29 24 0 (.agg #[.slice d.gFrames_a d.gFrames_n d.gFrames_c]) (by kernel_rfl) rfl (by kernel_rfl)) ?_
 refine J.callF 30 9 #[.agg #[.slice d.gFrames_a d.gFrames_n d.gFrames_c]] hb9 (by kernel_rfl) (dtext_any d _ (dbQ_sep hd S3) (tabW_sep hW S3)) ?_
 rintro _ w4 ⟨rfl, T3⟩
 have S4 : Sep w [box b1 [.slice d.gFrames_a d.gFrames_n d.gFrames_c] 24] w4 := S3.trans T3
 clear T3 S3
 refine J.run 11 K5_7 [(34, .bool ((txE d) == 0)), (6, iv (txE d)), (5, .string (txS d)), (2, .pointer (some ⟨b1, 0, none⟩)), (1, .string s)] w4 (by kernel_rfl) ?_
 by_cases fk3 : (txE d) = 0
 ·skip
  refine J.head (.bool true) (congrArg Value.bool (beq_iff_eq.2 fk3)) ?_
  have hpar1 := back_own hd fk3
  have := tx_size fk3
  refine J.run 4 K5_8 [(36, .string (txS d)), (2, .pointer (some ⟨b1, 0, none⟩)), (1, .string s)] w4 (by kernel_rfl) ?_
  refine J.callF 37 14 #[.string (txS d)] hb14 (by kernel_rfl) (parse_any (txS d) _ (by omega) (tabW_sep hW S4)) ?_
  rintro _ w5 ⟨ya1, yc1, yo1, rfl, hy1, hk1, T4⟩
  have S5 : Sep w (rowOf frmE ya1 yc1 34 5 yo1 :: box b1 [.slice d.gFrames_a d.gFrames_n d.gFrames_c] 24 :: tlF yo1) w5 := clm_tail0 [box b1 [.slice d.gFrames_a d.gFrames_n d.gFrames_c] 24] (S4.trans T4)
  clear T4
  clear S4
  have hn_yo1 := (rowOf_cells (S5.nth 0 rfl)).2.2
  have hm_yo1 := rowOf_cap (S5.nth 0 rfl)
  have ek1 : (parsF (txS d)).pl = 0 := by rw [hpar1]
  rw [ek1]
  have ek2 : (parsF (txS d)).pc = 0 := by rw [hpar1]
  rw [ek2]
  have ek3 : (parsF (txS d)).e = 0 := by rw [hpar1]
  rw [ek3]
  refine J.run 4 K5_9 [(40, iv 0), (39, .agg #[iv 0, iv 0]), (38, .agg #[.slice ya1 yo1.length yc1]), (2, .pointer (some ⟨b1, 0, none⟩)), (1, .string s)] w5 (by kernel_rfl) ?_
  refine J.new S5 7 [.slice none 0 0] 24 (by kernel_rfl) ?_
  intro b2 w6 S6
  refine J.new S6 8 [iv 0, iv 0] 40 (by kernel_rfl) ?_
  intro b3 w7 S7
  refine J.stBox S7 1 24 0 (.agg #[.slice ya1 yo1.length yc1]) [.slice ya1 yo1.length yc1] (box b3 [iv 0, iv 0] 40 :: box b2 [.slice ya1 yo1.length yc1] 24 :: rowOf frmE ya1 yc1 34 5 yo1 :: box b1 [.slice d.gFrames_a d.gFrames_n d.gFrames_c] 24 :: tlF yo1) (by kernel_rfl) rfl (by kernel_rfl) (by kernel_rfl) rfl ?_
  intro w8 S8
  refine J.stBox S8 0 40 0 (.agg #[iv 0, iv 0]) [iv 0, iv 0] (box b3 [iv 0, iv 0] 40 :: box b2 [.slice ya1 yo1.length yc1] 24 :: rowOf frmE ya1 yc1 34 5 yo1 :: box b1 [.slice d.gFrames_a d.gFrames_n d.gFrames_c] 24 :: tlF yo1) (by kernel_rfl) rfl (by kernel_rfl) (by kernel_rfl) rfl ?_
  intro w9 S9
  refine J.run 7 K5_10 [(43, .bool false), (8, .pointer (some ⟨b3, 0, none⟩)), (7, .pointer (some ⟨b2, 0, none⟩)), (2, .pointer (some ⟨b1, 0, none⟩)), (1, .string s)] w9 (by kernel_rfl) ?_
  refine J.ok (OK.ldBox S9 0 44 40 0 (.agg #[iv 0, iv 0]) (by kernel_rfl) rfl (by kernel_rfl)) ?_
  refine J.run 1 K5_11 [(45, .agg #[iv 0, iv 0]), (44, .agg #[iv 0, iv 0]), (43, .bool false), (7, .pointer (some ⟨b2, 0, none⟩)), (2, .pointer (some ⟨b1, 0, none⟩)), (1, .string s)] w9 (by kernel_rfl) ?_
  refine J.ok (OK.eqS 46 false 40 #[iv 0, iv 0] #[iv 0, iv 0] (((0 : Int) == 0) && (((0 : Int) == 0) && true)) (by kernel_rfl) (by kernel_rfl) (by kernel_rfl) false (by simp)) ?_
  refine J.run 2 K5_12 [(48, .bool false), (7, .pointer (some ⟨b2, 0, none⟩)), (2, .pointer (some ⟨b1, 0, none⟩)), (1, .string s)] w9 (by kernel_rfl) ?_
  refine J.ok (OK.ldBox S9 1 49 24 0 (.agg #[.slice ya1 yo1.length yc1]) (by kernel_rfl) rfl (by kernel_rfl)) ?_
  refine J.ok (OK.ldBox S9 3 50 24 0 (.agg #[.slice d.gFrames_a d.gFrames_n d.gFrames_c]) (by kernel_rfl) rfl (by kernel_rfl)) ?_
  refine J.callF 51 16 #[.agg #[.slice ya1 yo1.length yc1], .agg #[.slice d.gFrames_a d.gFrames_n d.gFrames_c]] hb16 (by kernel_rfl) (sameD_any ya1 d.gFrames_a yc1 d.gFrames_c yo1.length d.gFrames_n yo1 d.gFrames_l _ (rowOf_recs (S9.nth 2 rfl) _ rfl (fun _ => rfl) (by decide)) (dbQ_sep hd S9).2.1 (tl_qm S9 (fun c_ h_ => (show c_ ∈ [box b3 [iv 0, iv 0] 40, box b2 [.slice ya1 yo1.length yc1] 24, rowOf frmE ya1 yc1 34 5 yo1, box b1 [.slice d.gFrames_a d.gFrames_n d.gFrames_c] 24] ++ tlF yo1 from List.mem_append.2 (.inr (h_)))) hk1) (dbQ_sep hd S9).2.2.1 (hy1.trans (by rw [hpar1])) (by omega)) ?_
  rintro _ w10 ⟨rfl, T5⟩
  have S10 : Sep w (box b3 [iv 0, iv 0] 40 :: box b2 [.slice ya1 yo1.length yc1] 24 :: rowOf frmE ya1 yc1 34 5 yo1 :: box b1 [.slice d.gFrames_a d.gFrames_n d.gFrames_c] 24 :: tlF yo1) w10 := S9.trans T5
  clear T5 S9
  refine J.run 8 K5_13 [(65, .string s)] w10 (by kernel_rfl) ?_
  refine J.callF 66 14 #[.string s] hb14 (by kernel_rfl) (parse_any s _ (by omega) (tabW_sep hW S10)) ?_
  rintro _ w11 ⟨ya2, yc2, yo2, rfl, hy2, hk2, T6⟩
  have S11 : Sep w (rowOf frmE ya2 yc2 34 5 yo2 :: box b3 [iv 0, iv 0] 40 :: box b2 [.slice ya1 yo1.length yc1] 24 :: rowOf frmE ya1 yc1 34 5 yo1 :: box b1 [.slice d.gFrames_a d.gFrames_n d.gFrames_c] 24 :: (tlF yo2 ++ tlF yo1)) w11 := clm_tail [box b3 [iv 0, iv 0] 40, box b2 [.slice ya1 yo1.length yc1] 24, rowOf frmE ya1 yc1 34 5 yo1, box b1 [.slice d.gFrames_a d.gFrames_n d.gFrames_c] 24] (S10.trans T6)
  clear T6
  clear S10
  have hn_yo2 := (rowOf_cells (S11.nth 0 rfl)).2.2
  have hm_yo2 := rowOf_cap (S11.nth 0 rfl)
  refine J.run 4 K5_14 [(69, iv ((parsF s).e)), (68, .agg #[iv ((parsF s).pl), iv ((parsF s).pc)]), (67, .agg #[.slice ya2 yo2.length yc2])] w11 (by kernel_rfl) ?_
  refine J.new S11 10 [.slice none 0 0] 24 (by kernel_rfl) ?_
  intro b4 w12 S12
  refine J.new S12 11 [iv 0, iv 0] 40 (by kernel_rfl) ?_
  intro b5 w13 S13
  refine J.stBox S13 1 24 0 (.agg #[.slice ya2 yo2.length yc2]) [.slice ya2 yo2.length yc2] (box b5 [iv 0, iv 0] 40 :: box b4 [.slice ya2 yo2.length yc2] 24 :: rowOf frmE ya2 yc2 34 5 yo2 :: box b3 [iv 0, iv 0] 40 :: box b2 [.slice ya1 yo1.length yc1] 24 :: rowOf frmE ya1 yc1 34 5 yo1 :: box b1 [.slice d.gFrames_a d.gFrames_n d.gFrames_c] 24 :: (tlF yo2 ++ tlF yo1)) (by kernel_rfl) rfl (by kernel_rfl) (by kernel_rfl) rfl ?_
  intro w14 S14
  refine J.stBox S14 0 40 0 (.agg #[iv ((parsF s).pl), iv ((parsF s).pc)]) [iv ((parsF s).pl), iv ((parsF s).pc)] (box b5 [iv ((parsF s).pl), iv ((parsF s).pc)] 40 :: box b4 [.slice ya2 yo2.length yc2] 24 :: rowOf frmE ya2 yc2 34 5 yo2 :: box b3 [iv 0, iv 0] 40 :: box b2 [.slice ya1 yo1.length yc1] 24 :: rowOf frmE ya1 yc1 34 5 yo1 :: box b1 [.slice d.gFrames_a d.gFrames_n d.gFrames_c] 24 :: (tlF yo2 ++ tlF yo1)) (by kernel_rfl) rfl (by kernel_rfl) (by kernel_rfl) rfl ?_
  intro w15 S15
  refine J.run 8 K5_15 [(71, .bool (((parsF s).e) != 0)), (10, .pointer (some ⟨b4, 0, none⟩))] w15 (by kernel_rfl) ?_
  by_cases fk4 : ((parsF s).e) = 0
  rotate_left
  ·skip
   refine J.head (.bool true) (congrArg Value.bool (bne_iff_ne.2 fk4)) ?_
   have hno := parsed_none hy2 fk4
   refine J.run 4 K5_26 [(72, .pointer (some ⟨b4, 0, none⟩))] w15 (by kernel_rfl) ?_
   refine J.ok (OK.ldBox S15 1 73 22 0 (.slice ya2 yo2.length yc2) (by kernel_rfl) rfl (by kernel_rfl)) ?_
   refine J.run 4 K5_27 [(4, .bool ((yo2.length : Int) == 0))] w15 (by kernel_rfl) ?_
   refine J.ret Tryd.f5 [.bool ((yo2.length : Int) == 0)] Tryd.func5 ⟨by kernel_rfl, trivial⟩ ?_
   refine hR _ _ ?_
   exact ⟨congrArg Value.bool (by first | exact beq_iff_eq.2 (by omega) | exact beq_iff_eq.2 (hfx _ _)), S15.nil⟩
  refine J.head (.bool false) (congrArg Value.bool (bne_eq_false_iff_eq.2 fk4)) ?_
  have hfx : ∀ a c, (faultF (⟨a, yo2.length, c, yo2⟩ : Db)).2 = 0 := fun a c => parsed_fault hy2 hk2 fk4
  refine J.run 4 K5_16 [(10, .pointer (some ⟨b4, 0, none⟩))] w15 (by kernel_rfl) ?_
  refine J.ok (OK.ldBox S15 1 77 24 0 (.agg #[.slice ya2 yo2.length yc2]) (by kernel_rfl) rfl (by kernel_rfl)) ?_
  refine J.callF 78 9 #[.agg #[.slice ya2 yo2.length yc2]] hb9 (by kernel_rfl) (dtext_any (⟨ya2, yo2.length, yc2, yo2⟩ : Db) _ (show dbQ _ (⟨ya2, yo2.length, yc2, yo2⟩ : Db) from ⟨⟨(rowOf_cells (S15.nth 2 rfl)).2.2, rowOf_cap (S15.nth 2 rfl)⟩, (rowOf_recs (S15.nth 2 rfl) _ rfl (fun _ => rfl) (by decide)), by exact tl_qm S15 (fun c_ h_ => (show c_ ∈ [box b5 [iv ((parsF s).pl), iv ((parsF s).pc)] 40, box b4 [.slice ya2 yo2.length yc2] 24, rowOf frmE ya2 yc2 34 5 yo2, box b3 [iv 0, iv 0] 40, box b2 [.slice ya1 yo1.length yc1] 24, rowOf frmE ya1 yc1 34 5 yo1, box b1 [.slice d.gFrames_a d.gFrames_n d.gFrames_c] 24] ++ (tlF yo2 ++ tlF yo1) from List.mem_append.2 (.inr (List.mem_append.2 (.inl h_))))) hk2, trivial⟩) (tabW_sep hW S15)) ?_
  rintro _ w16 ⟨rfl, T7⟩
  have S16 : Sep w (box b5 [iv ((parsF s).pl), iv ((parsF s).pc)] 40 :: box b4 [.slice ya2 yo2.length yc2] 24 :: rowOf frmE ya2 yc2 34 5 yo2 :: box b3 [iv 0, iv 0] 40 :: box b2 [.slice ya1 yo1.length yc1] 24 :: rowOf frmE ya1 yc1 34 5 yo1 :: box b1 [.slice d.gFrames_a d.gFrames_n d.gFrames_c] 24 :: (tlF yo2 ++ tlF yo1)) w16 := S15.trans T7
  clear T7 S15
  refine J.run 12 K5_17 [(82, .bool ((txE (⟨ya2, yo2.length, yc2, yo2⟩ : Db)) != 0)), (14, iv (txE (⟨ya2, yo2.length, yc2, yo2⟩ : Db))), (13, .string (txS (⟨ya2, yo2.length, yc2, yo2⟩ : Db))), (10, .pointer (some ⟨b4, 0, none⟩))] w16 (by kernel_rfl) ?_
  by_cases fk5 : (txE (⟨ya2, yo2.length, yc2, yo2⟩ : Db)) = 0
  rotate_left
  ·skip
   refine J.head (.bool true) (congrArg Value.bool (bne_iff_ne.2 fk5)) ?_
   have hx5 := (tx_one fk5).2.2 (hfx _ _)
   refine J.run 6 K5_24 [(85, .bool ((txE (⟨ya2, yo2.length, yc2, yo2⟩ : Db)) == 5)), (10, .pointer (some ⟨b4, 0, none⟩))] w16 (by kernel_rfl) ?_
   have fk9 : (txE (⟨ya2, yo2.length, yc2, yo2⟩ : Db)) = 5 := hx5
   refine J.head (.bool true) (congrArg Value.bool (beq_iff_eq.2 fk9)) ?_
   refine J.ok (OK.ldBox S16 1 86 24 0 (.agg #[.slice ya2 yo2.length yc2]) (by kernel_rfl) rfl (by kernel_rfl)) ?_
   refine J.callF 87 17 #[.agg #[.slice ya2 yo2.length yc2]] hb17 (by kernel_rfl) (validdb_any (⟨ya2, yo2.length, yc2, yo2⟩ : Db) _ (show dbQ _ (⟨ya2, yo2.length, yc2, yo2⟩ : Db) from ⟨⟨(rowOf_cells (S16.nth 2 rfl)).2.2, rowOf_cap (S16.nth 2 rfl)⟩, (rowOf_recs (S16.nth 2 rfl) _ rfl (fun _ => rfl) (by decide)), by exact tl_qm S16 (fun c_ h_ => (show c_ ∈ [box b5 [iv ((parsF s).pl), iv ((parsF s).pc)] 40, box b4 [.slice ya2 yo2.length yc2] 24, rowOf frmE ya2 yc2 34 5 yo2, box b3 [iv 0, iv 0] 40, box b2 [.slice ya1 yo1.length yc1] 24, rowOf frmE ya1 yc1 34 5 yo1, box b1 [.slice d.gFrames_a d.gFrames_n d.gFrames_c] 24] ++ (tlF yo2 ++ tlF yo1) from List.mem_append.2 (.inr (List.mem_append.2 (.inl h_))))) hk2, trivial⟩)) ?_
   rintro _ w24 ⟨rfl, T11⟩
   have S24 : Sep w (box b5 [iv ((parsF s).pl), iv ((parsF s).pc)] 40 :: box b4 [.slice ya2 yo2.length yc2] 24 :: rowOf frmE ya2 yc2 34 5 yo2 :: box b3 [iv 0, iv 0] 40 :: box b2 [.slice ya1 yo1.length yc1] 24 :: rowOf frmE ya1 yc1 34 5 yo1 :: box b1 [.slice d.gFrames_a d.gFrames_n d.gFrames_c] 24 :: (tlF yo2 ++ tlF yo1)) w24 := S16.trans T11
   clear T11 S16
   refine J.run 3 K5_25 [(4, .bool (((faultF (⟨ya2, yo2.length, yc2, yo2⟩ : Db)).2) == 0))] w24 (by kernel_rfl) ?_
   refine J.ret Tryd.f5 [.bool (((faultF (⟨ya2, yo2.length, yc2, yo2⟩ : Db)).2) == 0)] Tryd.func5 ⟨by kernel_rfl, trivial⟩ ?_
   refine hR _ _ ?_
   exact ⟨congrArg Value.bool (by first | exact beq_iff_eq.2 (by omega) | exact beq_iff_eq.2 (hfx _ _)), S24.nil⟩
  refine J.head (.bool false) (congrArg Value.bool (bne_eq_false_iff_eq.2 fk5)) ?_
  have hpar2 := back_again hk2 fk5
  have := tx_size fk5
  refine J.run 5 K5_18 [(90, .string (txS (⟨ya2, yo2.length, yc2, yo2⟩ : Db))), (10, .pointer (some ⟨b4, 0, none⟩))] w16 (by kernel_rfl) ?_
  refine J.callF 91 14 #[.string (txS (⟨ya2, yo2.length, yc2, yo2⟩ : Db))] hb14 (by kernel_rfl) (parse_any (txS (⟨ya2, yo2.length, yc2, yo2⟩ : Db)) _ (by omega) (tabW_sep hW S16)) ?_
  rintro _ w17 ⟨ya3, yc3, yo3, rfl, hy3, hk3, T8⟩
  have S17 : Sep w (rowOf frmE ya3 yc3 34 5 yo3 :: box b5 [iv ((parsF s).pl), iv ((parsF s).pc)] 40 :: box b4 [.slice ya2 yo2.length yc2] 24 :: rowOf frmE ya2 yc2 34 5 yo2 :: box b3 [iv 0, iv 0] 40 :: box b2 [.slice ya1 yo1.length yc1] 24 :: rowOf frmE ya1 yc1 34 5 yo1 :: box b1 [.slice d.gFrames_a d.gFrames_n d.gFrames_c] 24 :: (tlF yo3 ++ (tlF yo2 ++ tlF yo1))) w17 := clm_tail [box b5 [iv ((parsF s).pl), iv ((parsF s).pc)] 40, box b4 [.slice ya2 yo2.length yc2] 24, rowOf frmE ya2 yc2 34 5 yo2, box b3 [iv 0, iv 0] 40, box b2 [.slice ya1 yo1.length yc1] 24, rowOf frmE ya1 yc1 34 5 yo1, box b1 [.slice d.gFrames_a d.gFrames_n d.gFrames_c] 24] (S16.trans T8)
  clear T8
  clear S16
  have hn_yo3 := (rowOf_cells (S17.nth 0 rfl)).2.2
  have hm_yo3 := rowOf_cap (S17.nth 0 rfl)
  have ek4 : (parsF (txS (⟨ya2, yo2.length, yc2, yo2⟩ : Db))).pl = 0 := by rw [hpar2]
  rw [ek4]
  have ek5 : (parsF (txS (⟨ya2, yo2.length, yc2, yo2⟩ : Db))).pc = 0 := by rw [hpar2]
  rw [ek5]
  have ek6 : (parsF (txS (⟨ya2, yo2.length, yc2, yo2⟩ : Db))).e = 0 := by rw [hpar2]
  rw [ek6]
  refine J.run 4 K5_19 [(94, iv 0), (93, .agg #[iv 0, iv 0]), (92, .agg #[.slice ya3 yo3.length yc3]), (10, .pointer (some ⟨b4, 0, none⟩))] w17 (by kernel_rfl) ?_
  refine J.new S17 15 [.slice none 0 0] 24 (by kernel_rfl) ?_
  intro b6 w18 S18
  refine J.new S18 16 [iv 0, iv 0] 40 (by kernel_rfl) ?_
  intro b7 w19 S19
  refine J.stBox S19 1 24 0 (.agg #[.slice ya3 yo3.length yc3]) [.slice ya3 yo3.length yc3] (box b7 [iv 0, iv 0] 40 :: box b6 [.slice ya3 yo3.length yc3] 24 :: rowOf frmE ya3 yc3 34 5 yo3 :: box b5 [iv ((parsF s).pl), iv ((parsF s).pc)] 40 :: box b4 [.slice ya2 yo2.length yc2] 24 :: rowOf frmE ya2 yc2 34 5 yo2 :: box b3 [iv 0, iv 0] 40 :: box b2 [.slice ya1 yo1.length yc1] 24 :: rowOf frmE ya1 yc1 34 5 yo1 :: box b1 [.slice d.gFrames_a d.gFrames_n d.gFrames_c] 24 :: (tlF yo3 ++ (tlF yo2 ++ tlF yo1))) (by kernel_rfl) rfl (by kernel_rfl) (by kernel_rfl) rfl ?_
  intro w20 S20
  refine J.stBox S20 0 40 0 (.agg #[iv 0, iv 0]) [iv 0, iv 0] (box b7 [iv 0, iv 0] 40 :: box b6 [.slice ya3 yo3.length yc3] 24 :: rowOf frmE ya3 yc3 34 5 yo3 :: box b5 [iv ((parsF s).pl), iv ((parsF s).pc)] 40 :: box b4 [.slice ya2 yo2.length yc2] 24 :: rowOf frmE ya2 yc2 34 5 yo2 :: box b3 [iv 0, iv 0] 40 :: box b2 [.slice ya1 yo1.length yc1] 24 :: rowOf frmE ya1 yc1 34 5 yo1 :: box b1 [.slice d.gFrames_a d.gFrames_n d.gFrames_c] 24 :: (tlF yo3 ++ (tlF yo2 ++ tlF yo1))) (by kernel_rfl) rfl (by kernel_rfl) (by kernel_rfl) rfl ?_
  intro w21 S21
  refine J.run 4 K5_20 [(17, iv 0), (15, .pointer (some ⟨b6, 0, none⟩)), (10, .pointer (some ⟨b4, 0, none⟩))] w21 (by kernel_rfl) ?_
  refine J.ok (OK.ldBox S21 4 95 24 0 (.agg #[.slice ya2 yo2.length yc2]) (by kernel_rfl) rfl (by kernel_rfl)) ?_
  refine J.callF 96 17 #[.agg #[.slice ya2 yo2.length yc2]] hb17 (by kernel_rfl) (validdb_any (⟨ya2, yo2.length, yc2, yo2⟩ : Db) _ (show dbQ _ (⟨ya2, yo2.length, yc2, yo2⟩ : Db) from ⟨⟨(rowOf_cells (S21.nth 5 rfl)).2.2, rowOf_cap (S21.nth 5 rfl)⟩, (rowOf_recs (S21.nth 5 rfl) _ rfl (fun _ => rfl) (by decide)), by exact tl_qm S21 (fun c_ h_ => (show c_ ∈ [box b7 [iv 0, iv 0] 40, box b6 [.slice ya3 yo3.length yc3] 24, rowOf frmE ya3 yc3 34 5 yo3, box b5 [iv ((parsF s).pl), iv ((parsF s).pc)] 40, box b4 [.slice ya2 yo2.length yc2] 24, rowOf frmE ya2 yc2 34 5 yo2, box b3 [iv 0, iv 0] 40, box b2 [.slice ya1 yo1.length yc1] 24, rowOf frmE ya1 yc1 34 5 yo1, box b1 [.slice d.gFrames_a d.gFrames_n d.gFrames_c] 24] ++ (tlF yo3 ++ (tlF yo2 ++ tlF yo1)) from List.mem_append.2 (.inr (List.mem_append.2 (.inr (List.mem_append.2 (.inl h_))))))) hk2, trivial⟩)) ?_
  rintro _ w22 ⟨rfl, T9⟩
  have S22 : Sep w (box b7 [iv 0, iv 0] 40 :: box b6 [.slice ya3 yo3.length yc3] 24 :: rowOf frmE ya3 yc3 34 5 yo3 :: box b5 [iv ((parsF s).pl), iv ((parsF s).pc)] 40 :: box b4 [.slice ya2 yo2.length yc2] 24 :: rowOf frmE ya2 yc2 34 5 yo2 :: box b3 [iv 0, iv 0] 40 :: box b2 [.slice ya1 yo1.length yc1] 24 :: rowOf frmE ya1 yc1 34 5 yo1 :: box b1 [.slice d.gFrames_a d.gFrames_n d.gFrames_c] 24 :: (tlF yo3 ++ (tlF yo2 ++ tlF yo1))) w22 := S21.trans T9
  clear T9 S21
  refine J.run 1 K5_21 [(97, .bool (((faultF (⟨ya2, yo2.length, yc2, yo2⟩ : Db)).2) == 0)), (17, iv 0), (15, .pointer (some ⟨b6, 0, none⟩)), (10, .pointer (some ⟨b4, 0, none⟩))] w22 (by kernel_rfl) ?_
  have fk7 : ((faultF (⟨ya2, yo2.length, yc2, yo2⟩ : Db)).2) = 0 := hfx _ _
  refine J.head (.bool true) (congrArg Value.bool (beq_iff_eq.2 fk7)) ?_
  refine J.run 4 K5_22 [(101, .bool true), (15, .pointer (some ⟨b6, 0, none⟩)), (10, .pointer (some ⟨b4, 0, none⟩))] w22 (by kernel_rfl) ?_
  refine J.ok (OK.ldBox S22 4 102 24 0 (.agg #[.slice ya2 yo2.length yc2]) (by kernel_rfl) rfl (by kernel_rfl)) ?_
  refine J.ok (OK.ldBox S22 1 103 24 0 (.agg #[.slice ya3 yo3.length yc3]) (by kernel_rfl) rfl (by kernel_rfl)) ?_
  refine J.callF 104 16 #[.agg #[.slice ya2 yo2.length yc2], .agg #[.slice ya3 yo3.length yc3]] hb16 (by kernel_rfl) (sameD_any ya2 ya3 yc2 yc3 yo2.length yo3.length yo2 yo3 _ (rowOf_recs (S22.nth 5 rfl) _ rfl (fun _ => rfl) (by decide)) (rowOf_recs (S22.nth 2 rfl) _ rfl (fun _ => rfl) (by decide)) (tl_qm S22 (fun c_ h_ => (show c_ ∈ [box b7 [iv 0, iv 0] 40, box b6 [.slice ya3 yo3.length yc3] 24, rowOf frmE ya3 yc3 34 5 yo3, box b5 [iv ((parsF s).pl), iv ((parsF s).pc)] 40, box b4 [.slice ya2 yo2.length yc2] 24, rowOf frmE ya2 yc2 34 5 yo2, box b3 [iv 0, iv 0] 40, box b2 [.slice ya1 yo1.length yc1] 24, rowOf frmE ya1 yc1 34 5 yo1, box b1 [.slice d.gFrames_a d.gFrames_n d.gFrames_c] 24] ++ (tlF yo3 ++ (tlF yo2 ++ tlF yo1)) from List.mem_append.2 (.inr (List.mem_append.2 (.inr (List.mem_append.2 (.inl h_))))))) hk2) (tl_qm S22 (fun c_ h_ => (show c_ ∈ [box b7 [iv 0, iv 0] 40, box b6 [.slice ya3 yo3.length yc3] 24, rowOf frmE ya3 yc3 34 5 yo3, box b5 [iv ((parsF s).pl), iv ((parsF s).pc)] 40, box b4 [.slice ya2 yo2.length yc2] 24, rowOf frmE ya2 yc2 34 5 yo2, box b3 [iv 0, iv 0] 40, box b2 [.slice ya1 yo1.length yc1] 24, rowOf frmE ya1 yc1 34 5 yo1, box b1 [.slice d.gFrames_a d.gFrames_n d.gFrames_c] 24] ++ (tlF yo3 ++ (tlF yo2 ++ tlF yo1)) from List.mem_append.2 (.inr (List.mem_append.2 (.inl h_))))) hk3) ((by rw [hy3, hpar2])) (by omega)) ?_
  rintro _ w23 ⟨rfl, T10⟩
  have S23 : Sep w (box b7 [iv 0, iv 0] 40 :: box b6 [.slice ya3 yo3.length yc3] 24 :: rowOf frmE ya3 yc3 34 5 yo3 :: box b5 [iv ((parsF s).pl), iv ((parsF s).pc)] 40 :: box b4 [.slice ya2 yo2.length yc2] 24 :: rowOf frmE ya2 yc2 34 5 yo2 :: box b3 [iv 0, iv 0] 40 :: box b2 [.slice ya1 yo1.length yc1] 24 :: rowOf frmE ya1 yc1 34 5 yo1 :: box b1 [.slice d.gFrames_a d.gFrames_n d.gFrames_c] 24 :: (tlF yo3 ++ (tlF yo2 ++ tlF yo1))) w23 := S22.trans T10
  clear T10 S22
  refine J.run 3 K5_23 [(4, .bool true)] w23 (by kernel_rfl) ?_
  refine J.ret Tryd.f5 [.bool true] Tryd.func5 ⟨by kernel_rfl, trivial⟩ ?_
  refine hR _ _ ?_
  exact ⟨rfl, S23.nil⟩
 refine J.head (.bool false) (congrArg Value.bool (beq_eq_false_iff_ne.2 fk3)) ?_
 obtain ⟨ht1, ht2, ht3⟩ := tx_one fk3
 refine J.run 5 K5_28 [(55, .bool (!((txS d).toList == (⟨#[]⟩ : ByteArray).toList))), (6, iv (txE d)), (2, .pointer (some ⟨b1, 0, none⟩)), (1, .string s)] w4 (by kernel_rfl) ?_
 refine J.head (.bool (((txS d).size : Int) != 0)) (congrArg Value.bool (beq_nil_neq _)) ?_
 refine J.run 1 K5_29 [(56, .bool (((txS d).size : Int) != 0)), (6, iv (txE d)), (2, .pointer (some ⟨b1, 0, none⟩)), (1, .string s)] w4 (by kernel_rfl) ?_
 have fk11 : ((txS d).size : Int) = 0 := by omega
 refine J.head (.bool false) (congrArg Value.bool (bne_eq_false_iff_eq.2 fk11)) ?_
 refine J.run 3 K5_30 [(59, .bool ((txE d) == 1)), (56, .bool false), (2, .pointer (some ⟨b1, 0, none⟩)), (1, .string s)] w4 (by kernel_rfl) ?_
 by_cases fk12 : (txE d) = 1
 rotate_left
 ·skip
  refine J.head (.bool false) (congrArg Value.bool (beq_eq_false_iff_ne.2 fk12)) ?_
  refine J.run 10 K5_47 [(65, .string s)] w4 (by kernel_rfl) ?_
  refine J.callF 66 14 #[.string s] hb14 (by kernel_rfl) (parse_any s _ (by omega) (tabW_sep hW S4)) ?_
  rintro _ w40 ⟨ya6, yc6, yo6, rfl, hy6, hk6, T19⟩
  have S40 : Sep w (rowOf frmE ya6 yc6 34 5 yo6 :: box b1 [.slice d.gFrames_a d.gFrames_n d.gFrames_c] 24 :: tlF yo6) w40 := clm_tail0 [box b1 [.slice d.gFrames_a d.gFrames_n d.gFrames_c] 24] (S4.trans T19)
  clear T19
  clear S4
  have hn_yo6 := (rowOf_cells (S40.nth 0 rfl)).2.2
  have hm_yo6 := rowOf_cap (S40.nth 0 rfl)
  refine J.run 4 K5_48 [(69, iv ((parsF s).e)), (68, .agg #[iv ((parsF s).pl), iv ((parsF s).pc)]), (67, .agg #[.slice ya6 yo6.length yc6])] w40 (by kernel_rfl) ?_
  refine J.new S40 10 [.slice none 0 0] 24 (by kernel_rfl) ?_
  intro b12 w41 S41
  refine J.new S41 11 [iv 0, iv 0] 40 (by kernel_rfl) ?_
  intro b13 w42 S42
  refine J.stBox S42 1 24 0 (.agg #[.slice ya6 yo6.length yc6]) [.slice ya6 yo6.length yc6] (box b13 [iv 0, iv 0] 40 :: box b12 [.slice ya6 yo6.length yc6] 24 :: rowOf frmE ya6 yc6 34 5 yo6 :: box b1 [.slice d.gFrames_a d.gFrames_n d.gFrames_c] 24 :: tlF yo6) (by kernel_rfl) rfl (by kernel_rfl) (by kernel_rfl) rfl ?_
  intro w43 S43
  refine J.stBox S43 0 40 0 (.agg #[iv ((parsF s).pl), iv ((parsF s).pc)]) [iv ((parsF s).pl), iv ((parsF s).pc)] (box b13 [iv ((parsF s).pl), iv ((parsF s).pc)] 40 :: box b12 [.slice ya6 yo6.length yc6] 24 :: rowOf frmE ya6 yc6 34 5 yo6 :: box b1 [.slice d.gFrames_a d.gFrames_n d.gFrames_c] 24 :: tlF yo6) (by kernel_rfl) rfl (by kernel_rfl) (by kernel_rfl) rfl ?_
  intro w44 S44
  refine J.run 8 K5_49 [(71, .bool (((parsF s).e) != 0)), (10, .pointer (some ⟨b12, 0, none⟩))] w44 (by kernel_rfl) ?_
  by_cases fk21 : ((parsF s).e) = 0
  rotate_left
  ·skip
   refine J.head (.bool true) (congrArg Value.bool (bne_iff_ne.2 fk21)) ?_
   have hno := parsed_none hy6 fk21
   refine J.run 4 K5_60 [(72, .pointer (some ⟨b12, 0, none⟩))] w44 (by kernel_rfl) ?_
   refine J.ok (OK.ldBox S44 1 73 22 0 (.slice ya6 yo6.length yc6) (by kernel_rfl) rfl (by kernel_rfl)) ?_
   refine J.run 4 K5_61 [(4, .bool ((yo6.length : Int) == 0))] w44 (by kernel_rfl) ?_
   refine J.ret Tryd.f5 [.bool ((yo6.length : Int) == 0)] Tryd.func5 ⟨by kernel_rfl, trivial⟩ ?_
   refine hR _ _ ?_
   exact ⟨congrArg Value.bool (by first | exact beq_iff_eq.2 (by omega) | exact beq_iff_eq.2 (hfx _ _)), S44.nil⟩
  refine J.head (.bool false) (congrArg Value.bool (bne_eq_false_iff_eq.2 fk21)) ?_
  have hfx : ∀ a c, (faultF (⟨a, yo6.length, c, yo6⟩ : Db)).2 = 0 := fun a c => parsed_fault hy6 hk6 fk21
  refine J.run 4 K5_50 [(10, .pointer (some ⟨b12, 0, none⟩))] w44 (by kernel_rfl) ?_
  refine J.ok (OK.ldBox S44 1 77 24 0 (.agg #[.slice ya6 yo6.length yc6]) (by kernel_rfl) rfl (by kernel_rfl)) ?_
  refine J.callF 78 9 #[.agg #[.slice ya6 yo6.length yc6]] hb9 (by kernel_rfl) (dtext_any (⟨ya6, yo6.length, yc6, yo6⟩ : Db) _ (show dbQ _ (⟨ya6, yo6.length, yc6, yo6⟩ : Db) from ⟨⟨(rowOf_cells (S44.nth 2 rfl)).2.2, rowOf_cap (S44.nth 2 rfl)⟩, (rowOf_recs (S44.nth 2 rfl) _ rfl (fun _ => rfl) (by decide)), by exact tl_qm S44 (fun c_ h_ => (show c_ ∈ [box b13 [iv ((parsF s).pl), iv ((parsF s).pc)] 40, box b12 [.slice ya6 yo6.length yc6] 24, rowOf frmE ya6 yc6 34 5 yo6, box b1 [.slice d.gFrames_a d.gFrames_n d.gFrames_c] 24] ++ tlF yo6 from List.mem_append.2 (.inr (h_)))) hk6, trivial⟩) (tabW_sep hW S44)) ?_
  rintro _ w45 ⟨rfl, T20⟩
  have S45 : Sep w (box b13 [iv ((parsF s).pl), iv ((parsF s).pc)] 40 :: box b12 [.slice ya6 yo6.length yc6] 24 :: rowOf frmE ya6 yc6 34 5 yo6 :: box b1 [.slice d.gFrames_a d.gFrames_n d.gFrames_c] 24 :: tlF yo6) w45 := S44.trans T20
  clear T20 S44
  refine J.run 12 K5_51 [(82, .bool ((txE (⟨ya6, yo6.length, yc6, yo6⟩ : Db)) != 0)), (14, iv (txE (⟨ya6, yo6.length, yc6, yo6⟩ : Db))), (13, .string (txS (⟨ya6, yo6.length, yc6, yo6⟩ : Db))), (10, .pointer (some ⟨b12, 0, none⟩))] w45 (by kernel_rfl) ?_
  by_cases fk22 : (txE (⟨ya6, yo6.length, yc6, yo6⟩ : Db)) = 0
  rotate_left
  ·skip
   refine J.head (.bool true) (congrArg Value.bool (bne_iff_ne.2 fk22)) ?_
   have hx5 := (tx_one fk22).2.2 (hfx _ _)
   refine J.run 6 K5_58 [(85, .bool ((txE (⟨ya6, yo6.length, yc6, yo6⟩ : Db)) == 5)), (10, .pointer (some ⟨b12, 0, none⟩))] w45 (by kernel_rfl) ?_
   have fk26 : (txE (⟨ya6, yo6.length, yc6, yo6⟩ : Db)) = 5 := hx5
   refine J.head (.bool true) (congrArg Value.bool (beq_iff_eq.2 fk26)) ?_
   refine J.ok (OK.ldBox S45 1 86 24 0 (.agg #[.slice ya6 yo6.length yc6]) (by kernel_rfl) rfl (by kernel_rfl)) ?_
   refine J.callF 87 17 #[.agg #[.slice ya6 yo6.length yc6]] hb17 (by kernel_rfl) (validdb_any (⟨ya6, yo6.length, yc6, yo6⟩ : Db) _ (show dbQ _ (⟨ya6, yo6.length, yc6, yo6⟩ : Db) from ⟨⟨(rowOf_cells (S45.nth 2 rfl)).2.2, rowOf_cap (S45.nth 2 rfl)⟩, (rowOf_recs (S45.nth 2 rfl) _ rfl (fun _ => rfl) (by decide)), by exact tl_qm S45 (fun c_ h_ => (show c_ ∈ [box b13 [iv ((parsF s).pl), iv ((parsF s).pc)] 40, box b12 [.slice ya6 yo6.length yc6] 24, rowOf frmE ya6 yc6 34 5 yo6, box b1 [.slice d.gFrames_a d.gFrames_n d.gFrames_c] 24] ++ tlF yo6 from List.mem_append.2 (.inr (h_)))) hk6, trivial⟩)) ?_
   rintro _ w53 ⟨rfl, T24⟩
   have S53 : Sep w (box b13 [iv ((parsF s).pl), iv ((parsF s).pc)] 40 :: box b12 [.slice ya6 yo6.length yc6] 24 :: rowOf frmE ya6 yc6 34 5 yo6 :: box b1 [.slice d.gFrames_a d.gFrames_n d.gFrames_c] 24 :: tlF yo6) w53 := S45.trans T24
   clear T24 S45
   refine J.run 3 K5_59 [(4, .bool (((faultF (⟨ya6, yo6.length, yc6, yo6⟩ : Db)).2) == 0))] w53 (by kernel_rfl) ?_
   refine J.ret Tryd.f5 [.bool (((faultF (⟨ya6, yo6.length, yc6, yo6⟩ : Db)).2) == 0)] Tryd.func5 ⟨by kernel_rfl, trivial⟩ ?_
   refine hR _ _ ?_
   exact ⟨congrArg Value.bool (by first | exact beq_iff_eq.2 (by omega) | exact beq_iff_eq.2 (hfx _ _)), S53.nil⟩
  refine J.head (.bool false) (congrArg Value.bool (bne_eq_false_iff_eq.2 fk22)) ?_
  have hpar4 := back_again hk6 fk22
  have := tx_size fk22
  refine J.run 5 K5_52 [(90, .string (txS (⟨ya6, yo6.length, yc6, yo6⟩ : Db))), (10, .pointer (some ⟨b12, 0, none⟩))] w45 (by kernel_rfl) ?_
  refine J.callF 91 14 #[.string (txS (⟨ya6, yo6.length, yc6, yo6⟩ : Db))] hb14 (by kernel_rfl) (parse_any (txS (⟨ya6, yo6.length, yc6, yo6⟩ : Db)) _ (by omega) (tabW_sep hW S45)) ?_
  rintro _ w46 ⟨ya7, yc7, yo7, rfl, hy7, hk7, T21⟩
  have S46 : Sep w (rowOf frmE ya7 yc7 34 5 yo7 :: box b13 [iv ((parsF s).pl), iv ((parsF s).pc)] 40 :: box b12 [.slice ya6 yo6.length yc6] 24 :: rowOf frmE ya6 yc6 34 5 yo6 :: box b1 [.slice d.gFrames_a d.gFrames_n d.gFrames_c] 24 :: (tlF yo7 ++ tlF yo6)) w46 := clm_tail [box b13 [iv ((parsF s).pl), iv ((parsF s).pc)] 40, box b12 [.slice ya6 yo6.length yc6] 24, rowOf frmE ya6 yc6 34 5 yo6, box b1 [.slice d.gFrames_a d.gFrames_n d.gFrames_c] 24] (S45.trans T21)
  clear T21
  clear S45
  have hn_yo7 := (rowOf_cells (S46.nth 0 rfl)).2.2
  have hm_yo7 := rowOf_cap (S46.nth 0 rfl)
  have ek10 : (parsF (txS (⟨ya6, yo6.length, yc6, yo6⟩ : Db))).pl = 0 := by rw [hpar4]
  rw [ek10]
  have ek11 : (parsF (txS (⟨ya6, yo6.length, yc6, yo6⟩ : Db))).pc = 0 := by rw [hpar4]
  rw [ek11]
  have ek12 : (parsF (txS (⟨ya6, yo6.length, yc6, yo6⟩ : Db))).e = 0 := by rw [hpar4]
  rw [ek12]
  refine J.run 4 K5_53 [(94, iv 0), (93, .agg #[iv 0, iv 0]), (92, .agg #[.slice ya7 yo7.length yc7]), (10, .pointer (some ⟨b12, 0, none⟩))] w46 (by kernel_rfl) ?_
  refine J.new S46 15 [.slice none 0 0] 24 (by kernel_rfl) ?_
  intro b14 w47 S47
  refine J.new S47 16 [iv 0, iv 0] 40 (by kernel_rfl) ?_
  intro b15 w48 S48
  refine J.stBox S48 1 24 0 (.agg #[.slice ya7 yo7.length yc7]) [.slice ya7 yo7.length yc7] (box b15 [iv 0, iv 0] 40 :: box b14 [.slice ya7 yo7.length yc7] 24 :: rowOf frmE ya7 yc7 34 5 yo7 :: box b13 [iv ((parsF s).pl), iv ((parsF s).pc)] 40 :: box b12 [.slice ya6 yo6.length yc6] 24 :: rowOf frmE ya6 yc6 34 5 yo6 :: box b1 [.slice d.gFrames_a d.gFrames_n d.gFrames_c] 24 :: (tlF yo7 ++ tlF yo6)) (by kernel_rfl) rfl (by kernel_rfl) (by kernel_rfl) rfl ?_
  intro w49 S49
  refine J.stBox S49 0 40 0 (.agg #[iv 0, iv 0]) [iv 0, iv 0] (box b15 [iv 0, iv 0] 40 :: box b14 [.slice ya7 yo7.length yc7] 24 :: rowOf frmE ya7 yc7 34 5 yo7 :: box b13 [iv ((parsF s).pl), iv ((parsF s).pc)] 40 :: box b12 [.slice ya6 yo6.length yc6] 24 :: rowOf frmE ya6 yc6 34 5 yo6 :: box b1 [.slice d.gFrames_a d.gFrames_n d.gFrames_c] 24 :: (tlF yo7 ++ tlF yo6)) (by kernel_rfl) rfl (by kernel_rfl) (by kernel_rfl) rfl ?_
  intro w50 S50
  refine J.run 4 K5_54 [(17, iv 0), (15, .pointer (some ⟨b14, 0, none⟩)), (10, .pointer (some ⟨b12, 0, none⟩))] w50 (by kernel_rfl) ?_
  refine J.ok (OK.ldBox S50 4 95 24 0 (.agg #[.slice ya6 yo6.length yc6]) (by kernel_rfl) rfl (by kernel_rfl)) ?_
  refine J.callF 96 17 #[.agg #[.slice ya6 yo6.length yc6]] hb17 (by kernel_rfl) (validdb_any (⟨ya6, yo6.length, yc6, yo6⟩ : Db) _ (show dbQ _ (⟨ya6, yo6.length, yc6, yo6⟩ : Db) from ⟨⟨(rowOf_cells (S50.nth 5 rfl)).2.2, rowOf_cap (S50.nth 5 rfl)⟩, (rowOf_recs (S50.nth 5 rfl) _ rfl (fun _ => rfl) (by decide)), by exact tl_qm S50 (fun c_ h_ => (show c_ ∈ [box b15 [iv 0, iv 0] 40, box b14 [.slice ya7 yo7.length yc7] 24, rowOf frmE ya7 yc7 34 5 yo7, box b13 [iv ((parsF s).pl), iv ((parsF s).pc)] 40, box b12 [.slice ya6 yo6.length yc6] 24, rowOf frmE ya6 yc6 34 5 yo6, box b1 [.slice d.gFrames_a d.gFrames_n d.gFrames_c] 24] ++ (tlF yo7 ++ tlF yo6) from List.mem_append.2 (.inr (List.mem_append.2 (.inr (h_)))))) hk6, trivial⟩)) ?_
  rintro _ w51 ⟨rfl, T22⟩
  have S51 : Sep w (box b15 [iv 0, iv 0] 40 :: box b14 [.slice ya7 yo7.length yc7] 24 :: rowOf frmE ya7 yc7 34 5 yo7 :: box b13 [iv ((parsF s).pl), iv ((parsF s).pc)] 40 :: box b12 [.slice ya6 yo6.length yc6] 24 :: rowOf frmE ya6 yc6 34 5 yo6 :: box b1 [.slice d.gFrames_a d.gFrames_n d.gFrames_c] 24 :: (tlF yo7 ++ tlF yo6)) w51 := S50.trans T22
  clear T22 S50
  refine J.run 1 K5_55 [(97, .bool (((faultF (⟨ya6, yo6.length, yc6, yo6⟩ : Db)).2) == 0)), (17, iv 0), (15, .pointer (some ⟨b14, 0, none⟩)), (10, .pointer (some ⟨b12, 0, none⟩))] w51 (by kernel_rfl) ?_
  have fk24 : ((faultF (⟨ya6, yo6.length, yc6, yo6⟩ : Db)).2) = 0 := hfx _ _
  refine J.head (.bool true) (congrArg Value.bool (beq_iff_eq.2 fk24)) ?_
  refine J.run 4 K5_56 [(101, .bool true), (15, .pointer (some ⟨b14, 0, none⟩)), (10, .pointer (some ⟨b12, 0, none⟩))] w51 (by kernel_rfl) ?_
  refine J.ok (OK.ldBox S51 4 102 24 0 (.agg #[.slice ya6 yo6.length yc6]) (by kernel_rfl) rfl (by kernel_rfl)) ?_
  refine J.ok (OK.ldBox S51 1 103 24 0 (.agg #[.slice ya7 yo7.length yc7]) (by kernel_rfl) rfl (by kernel_rfl)) ?_
  refine J.callF 104 16 #[.agg #[.slice ya6 yo6.length yc6], .agg #[.slice ya7 yo7.length yc7]] hb16 (by kernel_rfl) (sameD_any ya6 ya7 yc6 yc7 yo6.length yo7.length yo6 yo7 _ (rowOf_recs (S51.nth 5 rfl) _ rfl (fun _ => rfl) (by decide)) (rowOf_recs (S51.nth 2 rfl) _ rfl (fun _ => rfl) (by decide)) (tl_qm S51 (fun c_ h_ => (show c_ ∈ [box b15 [iv 0, iv 0] 40, box b14 [.slice ya7 yo7.length yc7] 24, rowOf frmE ya7 yc7 34 5 yo7, box b13 [iv ((parsF s).pl), iv ((parsF s).pc)] 40, box b12 [.slice ya6 yo6.length yc6] 24, rowOf frmE ya6 yc6 34 5 yo6, box b1 [.slice d.gFrames_a d.gFrames_n d.gFrames_c] 24] ++ (tlF yo7 ++ tlF yo6) from List.mem_append.2 (.inr (List.mem_append.2 (.inr (h_)))))) hk6) (tl_qm S51 (fun c_ h_ => (show c_ ∈ [box b15 [iv 0, iv 0] 40, box b14 [.slice ya7 yo7.length yc7] 24, rowOf frmE ya7 yc7 34 5 yo7, box b13 [iv ((parsF s).pl), iv ((parsF s).pc)] 40, box b12 [.slice ya6 yo6.length yc6] 24, rowOf frmE ya6 yc6 34 5 yo6, box b1 [.slice d.gFrames_a d.gFrames_n d.gFrames_c] 24] ++ (tlF yo7 ++ tlF yo6) from List.mem_append.2 (.inr (List.mem_append.2 (.inl h_))))) hk7) ((by rw [hy7, hpar4])) (by omega)) ?_
  rintro _ w52 ⟨rfl, T23⟩
  have S52 : Sep w (box b15 [iv 0, iv 0] 40 :: box b14 [.slice ya7 yo7.length yc7] 24 :: rowOf frmE ya7 yc7 34 5 yo7 :: box b13 [iv ((parsF s).pl), iv ((parsF s).pc)] 40 :: box b12 [.slice ya6 yo6.length yc6] 24 :: rowOf frmE ya6 yc6 34 5 yo6 :: box b1 [.slice d.gFrames_a d.gFrames_n d.gFrames_c] 24 :: (tlF yo7 ++ tlF yo6)) w52 := S51.trans T23
  clear T23 S51
  refine J.run 3 K5_57 [(4, .bool true)] w52 (by kernel_rfl) ?_
  refine J.ret Tryd.f5 [.bool true] Tryd.func5 ⟨by kernel_rfl, trivial⟩ ?_
  refine hR _ _ ?_
  exact ⟨rfl, S52.nil⟩
 refine J.head (.bool true) (congrArg Value.bool (beq_iff_eq.2 fk12)) ?_
 refine J.ok (OK.ldBox S4 0 60 24 0 (.agg #[.slice d.gFrames_a d.gFrames_n d.gFrames_c]) (by kernel_rfl) rfl (by kernel_rfl)) ?_
 refine J.callF 61 17 #[.agg #[.slice d.gFrames_a d.gFrames_n d.gFrames_c]] hb17 (by kernel_rfl) (validdb_any d _ (dbQ_sep hd S4)) ?_
 rintro _ w25 ⟨rfl, T12⟩
 have S25 : Sep w [box b1 [.slice d.gFrames_a d.gFrames_n d.gFrames_c] 24] w25 := S4.trans T12
 clear T12 S4
 refine J.run 3 K5_31 [(63, .bool (((faultF d).2) == 0)), (1, .string s)] w25 (by kernel_rfl) ?_
 have fk14 : ¬ (((faultF d).2) = 0) := ht2 fk12
 refine J.head (.bool false) (congrArg Value.bool (beq_eq_false_iff_ne.2 fk14)) ?_
 refine J.run 5 K5_32 [(65, .string s)] w25 (by kernel_rfl) ?_
 refine J.callF 66 14 #[.string s] hb14 (by kernel_rfl) (parse_any s _ (by omega) (tabW_sep hW S25)) ?_
 rintro _ w26 ⟨ya4, yc4, yo4, rfl, hy4, hk4, T13⟩
 have S26 : Sep w (rowOf frmE ya4 yc4 34 5 yo4 :: box b1 [.slice d.gFrames_a d.gFrames_n d.gFrames_c] 24 :: tlF yo4) w26 := clm_tail0 [box b1 [.slice d.gFrames_a d.gFrames_n d.gFrames_c] 24] (S25.trans T13)
 clear T13
 clear S25
 have hn_yo4 := (rowOf_cells (S26.nth 0 rfl)).2.2
 have hm_yo4 := rowOf_cap (S26.nth 0 rfl)
 refine J.run 4 K5_33 [(69, iv ((parsF s).e)), (68, .agg #[iv ((parsF s).pl), iv ((parsF s).pc)]), (67, .agg #[.slice ya4 yo4.length yc4])] w26 (by kernel_rfl) ?_
 refine J.new S26 10 [.slice none 0 0] 24 (by kernel_rfl) ?_
 intro b8 w27 S27
 refine J.new S27 11 [iv 0, iv 0] 40 (by kernel_rfl) ?_
 intro b9 w28 S28
 refine J.stBox S28 1 24 0 (.agg #[.slice ya4 yo4.length yc4]) [.slice ya4 yo4.length yc4] (box b9 [iv 0, iv 0] 40 :: box b8 [.slice ya4 yo4.length yc4] 24 :: rowOf frmE ya4 yc4 34 5 yo4 :: box b1 [.slice d.gFrames_a d.gFrames_n d.gFrames_c] 24 :: tlF yo4) (by kernel_rfl) rfl (by kernel_rfl) (by kernel_rfl) rfl ?_
 intro w29 S29
 refine J.stBox S29 0 40 0 (.agg #[iv ((parsF s).pl), iv ((parsF s).pc)]) [iv ((parsF s).pl), iv ((parsF s).pc)] (box b9 [iv ((parsF s).pl), iv ((parsF s).pc)] 40 :: box b8 [.slice ya4 yo4.length yc4] 24 :: rowOf frmE ya4 yc4 34 5 yo4 :: box b1 [.slice d.gFrames_a d.gFrames_n d.gFrames_c] 24 :: tlF yo4) (by kernel_rfl) rfl (by kernel_rfl) (by kernel_rfl) rfl ?_
 intro w30 S30
 refine J.run 8 K5_34 [(71, .bool (((parsF s).e) != 0)), (10, .pointer (some ⟨b8, 0, none⟩))] w30 (by kernel_rfl) ?_
 by_cases fk15 : ((parsF s).e) = 0
 rotate_left
 ·skip
  refine J.head (.bool true) (congrArg Value.bool (bne_iff_ne.2 fk15)) ?_
  have hno := parsed_none hy4 fk15
  refine J.run 4 K5_45 [(72, .pointer (some ⟨b8, 0, none⟩))] w30 (by kernel_rfl) ?_
  refine J.ok (OK.ldBox S30 1 73 22 0 (.slice ya4 yo4.length yc4) (by kernel_rfl) rfl (by kernel_rfl)) ?_
  refine J.run 4 K5_46 [(4, .bool ((yo4.length : Int) == 0))] w30 (by kernel_rfl) ?_
  refine J.ret Tryd.f5 [.bool ((yo4.length : Int) == 0)] Tryd.func5 ⟨by kernel_rfl, trivial⟩ ?_
  refine hR _ _ ?_
  exact ⟨congrArg Value.bool (by first | exact beq_iff_eq.2 (by omega) | exact beq_iff_eq.2 (hfx _ _)), S30.nil⟩
 refine J.head (.bool false) (congrArg Value.bool (bne_eq_false_iff_eq.2 fk15)) ?_
 have hfx : ∀ a c, (faultF (⟨a, yo4.length, c, yo4⟩ : Db)).2 = 0 := fun a c => parsed_fault hy4 hk4 fk15
 refine J.run 4 K5_35 [(10, .pointer (some ⟨b8, 0, none⟩))] w30 (by kernel_rfl) ?_
 refine J.ok (OK.ldBox S30 1 77 24 0 (.agg #[.slice ya4 yo4.length yc4]) (by kernel_rfl) rfl (by kernel_rfl)) ?_
 refine J.callF 78 9 #[.agg #[.slice ya4 yo4.length yc4]] hb9 (by kernel_rfl) (dtext_any (⟨ya4, yo4.length, yc4, yo4⟩ : Db) _ (show dbQ _ (⟨ya4, yo4.length, yc4, yo4⟩ : Db) from ⟨⟨(rowOf_cells (S30.nth 2 rfl)).2.2, rowOf_cap (S30.nth 2 rfl)⟩, (rowOf_recs (S30.nth 2 rfl) _ rfl (fun _ => rfl) (by decide)), by exact tl_qm S30 (fun c_ h_ => (show c_ ∈ [box b9 [iv ((parsF s).pl), iv ((parsF s).pc)] 40, box b8 [.slice ya4 yo4.length yc4] 24, rowOf frmE ya4 yc4 34 5 yo4, box b1 [.slice d.gFrames_a d.gFrames_n d.gFrames_c] 24] ++ tlF yo4 from List.mem_append.2 (.inr (h_)))) hk4, trivial⟩) (tabW_sep hW S30)) ?_
 rintro _ w31 ⟨rfl, T14⟩
 have S31 : Sep w (box b9 [iv ((parsF s).pl), iv ((parsF s).pc)] 40 :: box b8 [.slice ya4 yo4.length yc4] 24 :: rowOf frmE ya4 yc4 34 5 yo4 :: box b1 [.slice d.gFrames_a d.gFrames_n d.gFrames_c] 24 :: tlF yo4) w31 := S30.trans T14
 clear T14 S30
 refine J.run 12 K5_36 [(82, .bool ((txE (⟨ya4, yo4.length, yc4, yo4⟩ : Db)) != 0)), (14, iv (txE (⟨ya4, yo4.length, yc4, yo4⟩ : Db))), (13, .string (txS (⟨ya4, yo4.length, yc4, yo4⟩ : Db))), (10, .pointer (some ⟨b8, 0, none⟩))] w31 (by kernel_rfl) ?_
 by_cases fk16 : (txE (⟨ya4, yo4.length, yc4, yo4⟩ : Db)) = 0
 rotate_left
 ·skip
  refine J.head (.bool true) (congrArg Value.bool (bne_iff_ne.2 fk16)) ?_
  have hx5 := (tx_one fk16).2.2 (hfx _ _)
  refine J.run 6 K5_43 [(85, .bool ((txE (⟨ya4, yo4.length, yc4, yo4⟩ : Db)) == 5)), (10, .pointer (some ⟨b8, 0, none⟩))] w31 (by kernel_rfl) ?_
  have fk20 : (txE (⟨ya4, yo4.length, yc4, yo4⟩ : Db)) = 5 := hx5
  refine J.head (.bool true) (congrArg Value.bool (beq_iff_eq.2 fk20)) ?_
  refine J.ok (OK.ldBox S31 1 86 24 0 (.agg #[.slice ya4 yo4.length yc4]) (by kernel_rfl) rfl (by kernel_rfl)) ?_
  refine J.callF 87 17 #[.agg #[.slice ya4 yo4.length yc4]] hb17 (by kernel_rfl) (validdb_any (⟨ya4, yo4.length, yc4, yo4⟩ : Db) _ (show dbQ _ (⟨ya4, yo4.length, yc4, yo4⟩ : Db) from ⟨⟨(rowOf_cells (S31.nth 2 rfl)).2.2, rowOf_cap (S31.nth 2 rfl)⟩, (rowOf_recs (S31.nth 2 rfl) _ rfl (fun _ => rfl) (by decide)), by exact tl_qm S31 (fun c_ h_ => (show c_ ∈ [box b9 [iv ((parsF s).pl), iv ((parsF s).pc)] 40, box b8 [.slice ya4 yo4.length yc4] 24, rowOf frmE ya4 yc4 34 5 yo4, box b1 [.slice d.gFrames_a d.gFrames_n d.gFrames_c] 24] ++ tlF yo4 from List.mem_append.2 (.inr (h_)))) hk4, trivial⟩)) ?_
  rintro _ w39 ⟨rfl, T18⟩
  have S39 : Sep w (box b9 [iv ((parsF s).pl), iv ((parsF s).pc)] 40 :: box b8 [.slice ya4 yo4.length yc4] 24 :: rowOf frmE ya4 yc4 34 5 yo4 :: box b1 [.slice d.gFrames_a d.gFrames_n d.gFrames_c] 24 :: tlF yo4) w39 := S31.trans T18
  clear T18 S31
  refine J.run 3 K5_44 [(4, .bool (((faultF (⟨ya4, yo4.length, yc4, yo4⟩ : Db)).2) == 0))] w39 (by kernel_rfl) ?_
  refine J.ret Tryd.f5 [.bool (((faultF (⟨ya4, yo4.length, yc4, yo4⟩ : Db)).2) == 0)] Tryd.func5 ⟨by kernel_rfl, trivial⟩ ?_
  refine hR _ _ ?_
  exact ⟨congrArg Value.bool (by first | exact beq_iff_eq.2 (by omega) | exact beq_iff_eq.2 (hfx _ _)), S39.nil⟩
 refine J.head (.bool false) (congrArg Value.bool (bne_eq_false_iff_eq.2 fk16)) ?_
 have hpar3 := back_again hk4 fk16
 have := tx_size fk16
 refine J.run 5 K5_37 [(90, .string (txS (⟨ya4, yo4.length, yc4, yo4⟩ : Db))), (10, .pointer (some ⟨b8, 0, none⟩))] w31 (by kernel_rfl) ?_
 refine J.callF 91 14 #[.string (txS (⟨ya4, yo4.length, yc4, yo4⟩ : Db))] hb14 (by kernel_rfl) (parse_any (txS (⟨ya4, yo4.length, yc4, yo4⟩ : Db)) _ (by omega) (tabW_sep hW S31)) ?_
 rintro _ w32 ⟨ya5, yc5, yo5, rfl, hy5, hk5, T15⟩
 have S32 : Sep w (rowOf frmE ya5 yc5 34 5 yo5 :: box b9 [iv ((parsF s).pl), iv ((parsF s).pc)] 40 :: box b8 [.slice ya4 yo4.length yc4] 24 :: rowOf frmE ya4 yc4 34 5 yo4 :: box b1 [.slice d.gFrames_a d.gFrames_n d.gFrames_c] 24 :: (tlF yo5 ++ tlF yo4)) w32 := clm_tail [box b9 [iv ((parsF s).pl), iv ((parsF s).pc)] 40, box b8 [.slice ya4 yo4.length yc4] 24, rowOf frmE ya4 yc4 34 5 yo4, box b1 [.slice d.gFrames_a d.gFrames_n d.gFrames_c] 24] (S31.trans T15)
 clear T15
 clear S31
 have hn_yo5 := (rowOf_cells (S32.nth 0 rfl)).2.2
 have hm_yo5 := rowOf_cap (S32.nth 0 rfl)
 have ek7 : (parsF (txS (⟨ya4, yo4.length, yc4, yo4⟩ : Db))).pl = 0 := by rw [hpar3]
 rw [ek7]
 have ek8 : (parsF (txS (⟨ya4, yo4.length, yc4, yo4⟩ : Db))).pc = 0 := by rw [hpar3]
 rw [ek8]
 have ek9 : (parsF (txS (⟨ya4, yo4.length, yc4, yo4⟩ : Db))).e = 0 := by rw [hpar3]
 rw [ek9]
 refine J.run 4 K5_38 [(94, iv 0), (93, .agg #[iv 0, iv 0]), (92, .agg #[.slice ya5 yo5.length yc5]), (10, .pointer (some ⟨b8, 0, none⟩))] w32 (by kernel_rfl) ?_
 refine J.new S32 15 [.slice none 0 0] 24 (by kernel_rfl) ?_
 intro b10 w33 S33
 refine J.new S33 16 [iv 0, iv 0] 40 (by kernel_rfl) ?_
 intro b11 w34 S34
 refine J.stBox S34 1 24 0 (.agg #[.slice ya5 yo5.length yc5]) [.slice ya5 yo5.length yc5] (box b11 [iv 0, iv 0] 40 :: box b10 [.slice ya5 yo5.length yc5] 24 :: rowOf frmE ya5 yc5 34 5 yo5 :: box b9 [iv ((parsF s).pl), iv ((parsF s).pc)] 40 :: box b8 [.slice ya4 yo4.length yc4] 24 :: rowOf frmE ya4 yc4 34 5 yo4 :: box b1 [.slice d.gFrames_a d.gFrames_n d.gFrames_c] 24 :: (tlF yo5 ++ tlF yo4)) (by kernel_rfl) rfl (by kernel_rfl) (by kernel_rfl) rfl ?_
 intro w35 S35
 refine J.stBox S35 0 40 0 (.agg #[iv 0, iv 0]) [iv 0, iv 0] (box b11 [iv 0, iv 0] 40 :: box b10 [.slice ya5 yo5.length yc5] 24 :: rowOf frmE ya5 yc5 34 5 yo5 :: box b9 [iv ((parsF s).pl), iv ((parsF s).pc)] 40 :: box b8 [.slice ya4 yo4.length yc4] 24 :: rowOf frmE ya4 yc4 34 5 yo4 :: box b1 [.slice d.gFrames_a d.gFrames_n d.gFrames_c] 24 :: (tlF yo5 ++ tlF yo4)) (by kernel_rfl) rfl (by kernel_rfl) (by kernel_rfl) rfl ?_
 intro w36 S36
 refine J.run 4 K5_39 [(17, iv 0), (15, .pointer (some ⟨b10, 0, none⟩)), (10, .pointer (some ⟨b8, 0, none⟩))] w36 (by kernel_rfl) ?_
 refine J.ok (OK.ldBox S36 4 95 24 0 (.agg #[.slice ya4 yo4.length yc4]) (by kernel_rfl) rfl (by kernel_rfl)) ?_
 refine J.callF 96 17 #[.agg #[.slice ya4 yo4.length yc4]] hb17 (by kernel_rfl) (validdb_any (⟨ya4, yo4.length, yc4, yo4⟩ : Db) _ (show dbQ _ (⟨ya4, yo4.length, yc4, yo4⟩ : Db) from ⟨⟨(rowOf_cells (S36.nth 5 rfl)).2.2, rowOf_cap (S36.nth 5 rfl)⟩, (rowOf_recs (S36.nth 5 rfl) _ rfl (fun _ => rfl) (by decide)), by exact tl_qm S36 (fun c_ h_ => (show c_ ∈ [box b11 [iv 0, iv 0] 40, box b10 [.slice ya5 yo5.length yc5] 24, rowOf frmE ya5 yc5 34 5 yo5, box b9 [iv ((parsF s).pl), iv ((parsF s).pc)] 40, box b8 [.slice ya4 yo4.length yc4] 24, rowOf frmE ya4 yc4 34 5 yo4, box b1 [.slice d.gFrames_a d.gFrames_n d.gFrames_c] 24] ++ (tlF yo5 ++ tlF yo4) from List.mem_append.2 (.inr (List.mem_append.2 (.inr (h_)))))) hk4, trivial⟩)) ?_
 rintro _ w37 ⟨rfl, T16⟩
 have S37 : Sep w (box b11 [iv 0, iv 0] 40 :: box b10 [.slice ya5 yo5.length yc5] 24 :: rowOf frmE ya5 yc5 34 5 yo5 :: box b9 [iv ((parsF s).pl), iv ((parsF s).pc)] 40 :: box b8 [.slice ya4 yo4.length yc4] 24 :: rowOf frmE ya4 yc4 34 5 yo4 :: box b1 [.slice d.gFrames_a d.gFrames_n d.gFrames_c] 24 :: (tlF yo5 ++ tlF yo4)) w37 := S36.trans T16
 clear T16 S36
 refine J.run 1 K5_40 [(97, .bool (((faultF (⟨ya4, yo4.length, yc4, yo4⟩ : Db)).2) == 0)), (17, iv 0), (15, .pointer (some ⟨b10, 0, none⟩)), (10, .pointer (some ⟨b8, 0, none⟩))] w37 (by kernel_rfl) ?_
 have fk18 : ((faultF (⟨ya4, yo4.length, yc4, yo4⟩ : Db)).2) = 0 := hfx _ _
 refine J.head (.bool true) (congrArg Value.bool (beq_iff_eq.2 fk18)) ?_
 refine J.run 4 K5_41 [(101, .bool true), (15, .pointer (some ⟨b10, 0, none⟩)), (10, .pointer (some ⟨b8, 0, none⟩))] w37 (by kernel_rfl) ?_
 refine J.ok (OK.ldBox S37 4 102 24 0 (.agg #[.slice ya4 yo4.length yc4]) (by kernel_rfl) rfl (by kernel_rfl)) ?_
 refine J.ok (OK.ldBox S37 1 103 24 0 (.agg #[.slice ya5 yo5.length yc5]) (by kernel_rfl) rfl (by kernel_rfl)) ?_
 refine J.callF 104 16 #[.agg #[.slice ya4 yo4.length yc4], .agg #[.slice ya5 yo5.length yc5]] hb16 (by kernel_rfl) (sameD_any ya4 ya5 yc4 yc5 yo4.length yo5.length yo4 yo5 _ (rowOf_recs (S37.nth 5 rfl) _ rfl (fun _ => rfl) (by decide)) (rowOf_recs (S37.nth 2 rfl) _ rfl (fun _ => rfl) (by decide)) (tl_qm S37 (fun c_ h_ => (show c_ ∈ [box b11 [iv 0, iv 0] 40, box b10 [.slice ya5 yo5.length yc5] 24, rowOf frmE ya5 yc5 34 5 yo5, box b9 [iv ((parsF s).pl), iv ((parsF s).pc)] 40, box b8 [.slice ya4 yo4.length yc4] 24, rowOf frmE ya4 yc4 34 5 yo4, box b1 [.slice d.gFrames_a d.gFrames_n d.gFrames_c] 24] ++ (tlF yo5 ++ tlF yo4) from List.mem_append.2 (.inr (List.mem_append.2 (.inr (h_)))))) hk4) (tl_qm S37 (fun c_ h_ => (show c_ ∈ [box b11 [iv 0, iv 0] 40, box b10 [.slice ya5 yo5.length yc5] 24, rowOf frmE ya5 yc5 34 5 yo5, box b9 [iv ((parsF s).pl), iv ((parsF s).pc)] 40, box b8 [.slice ya4 yo4.length yc4] 24, rowOf frmE ya4 yc4 34 5 yo4, box b1 [.slice d.gFrames_a d.gFrames_n d.gFrames_c] 24] ++ (tlF yo5 ++ tlF yo4) from List.mem_append.2 (.inr (List.mem_append.2 (.inl h_))))) hk5) ((by rw [hy5, hpar3])) (by omega)) ?_
 rintro _ w38 ⟨rfl, T17⟩
 have S38 : Sep w (box b11 [iv 0, iv 0] 40 :: box b10 [.slice ya5 yo5.length yc5] 24 :: rowOf frmE ya5 yc5 34 5 yo5 :: box b9 [iv ((parsF s).pl), iv ((parsF s).pc)] 40 :: box b8 [.slice ya4 yo4.length yc4] 24 :: rowOf frmE ya4 yc4 34 5 yo4 :: box b1 [.slice d.gFrames_a d.gFrames_n d.gFrames_c] 24 :: (tlF yo5 ++ tlF yo4)) w38 := S37.trans T17
 clear T17 S37
 refine J.run 3 K5_42 [(4, .bool true)] w38 (by kernel_rfl) ?_
 refine J.ret Tryd.f5 [.bool true] Tryd.func5 ⟨by kernel_rfl, trivial⟩ ?_
 refine hR _ _ ?_
 exact ⟨rfl, S38.nil⟩

end
end Go.Proofs.YthiklimfffhbaaaDoor

