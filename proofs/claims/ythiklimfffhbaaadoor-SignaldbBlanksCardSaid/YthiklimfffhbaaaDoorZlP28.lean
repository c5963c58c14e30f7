/- Walks of functions of this seat, printed by a program over the engine. Conditions: as each theorem says. -/
import Derived.Test.YthiklimfffhbaaaDoorZlP27
namespace Go.Proofs.YthiklimfffhbaaaDoor
noncomputable section
open Go.Eng Go.RowKit
set_option linter.unusedSimpArgs false
set_option linter.unusedVariables false
def K6_0 := adv 7 [] (bodyOf Tryd.f6)
def K6_1 := adv 11 [false] (popK K6_0)
def K6_2 := adv 14 [true] K6_1
def K6_3 := adv 5 [] K6_1
def K6_4 := adv 9 [true] K6_3
def K6_5 := adv 1 [] K6_3
def K6_6 := adv 2 [] (popK K6_5)
def K6_7 := adv 5 [true] K6_6
def K6_8 := adv 10 [false] K6_6
def K6_9 := adv 5 [] (popK K6_8)
def K6_10 := adv 5 [] K6_9
def K6_11 := adv 6 [true] K6_10
def K6_12 := adv 1 [] (popK (popK K6_11))
def K6_13 := adv 4 [] K6_12
def K6_14 := adv 5 [] (popK K6_13)
def K6_15 := adv 12 [] K6_14
def K6_16 := adv 9 [true] K6_15
def K6_17 := adv 1 [] (popK (popK (popK K6_16)))
def K6_18 := adv 1 [] (popK K6_17)
def K6_19 := adv 5 [] (popK (popK (popK K6_18)))
def K6_20 := adv 7 [false] K6_15
def K6_21 := adv 1 [] (popK (popK (popK K6_20)))
def K6_22 := adv 1 [] (popK K6_21)
def K6_23 := adv 5 [] (popK (popK (popK K6_22)))
def K6_24 := adv 5 [false] K6_10
def K6_25 := adv 1 [] (popK K6_24)
def K6_26 := adv 8 [] K6_25
def K6_27 := adv 5 [true] K6_26
def K6_28 := adv 5 [false] K6_26
def K6_29 := adv 4 [] (popK K6_28)
def K6_30 := adv 5 [] (popK (popK (popK (popK K6_29))))
def K6_31 := adv 4 [] (popK K6_30)
def K6_32 := adv 3 [] (popK (popK (popK (popK K6_31))))
set_option maxRecDepth 20000 in
set_option maxHeartbeats 20000000 in
theorem lawblanks_any (s cm : ByteArray) (tb : Bool) (w : World) (hs : s.size ≤ 9223372036854775807) (hc : cm.size ≤ 9223372036854775807) (hW : TabW w) : Ret Tryd.prog 6 #[.string s, .string cm, .bool tb] w (fun v w' => v = .bool true ∧ Sep w [] w') := by
 have S0 := Sep.refl w
 refine Ret.named fun R hR => ?_
 refine Ret.of_J (N := 97) [(0, .string s), (1, .string cm), (2, .bool tb)] Tryd.func6 rfl rfl (Nat.le_of_ble_eq_true (by kernel_rfl)) (by kernel_rfl) ?_
 refine J.run 7 K6_0 [(0, .string s), (1, .string cm), (2, .bool tb)] w (by kernel_rfl) ?_
 refine J.callF 21 7 #[] hb7 (by kernel_rfl) (awake_any  _) ?_
 rintro _ w1 ⟨rfl, T1⟩
 have S1 : Sep w [] w1 := S0.trans T1
 clear T1
 refine J.run 11 K6_1 [(26, .bool (decide ((s.size : Int) > 3000))), (0, .string s), (1, .string cm), (2, .bool tb)] w1 (by kernel_rfl) ?_
 by_cases fk1 : (s.size : Int) > 3000
 ·skip
  refine J.head (.bool true) (congrArg Value.bool (decide_eq_true fk1)) ?_
  refine J.run 14 K6_2 [(6, .bool true)] w1 (by kernel_rfl) ?_
  refine J.ret Tryd.f6 [.bool true] Tryd.func6 ⟨by kernel_rfl, trivial⟩ ?_
  refine hR _ _ ?_
  exact ⟨rfl, S1.nil⟩
 refine J.head (.bool false) (congrArg Value.bool (decide_eq_false fk1)) ?_
 refine J.run 5 K6_3 [(31, .bool (decide ((cm.size : Int) > 40))), (0, .string s), (1, .string cm), (2, .bool tb)] w1 (by kernel_rfl) ?_
 by_cases fk2 : (cm.size : Int) > 40
 ·skip
  refine J.head (.bool true) (congrArg Value.bool (decide_eq_true fk2)) ?_
  refine J.run 9 K6_4 [(6, .bool true)] w1 (by kernel_rfl) ?_
  refine J.ret Tryd.f6 [.bool true] Tryd.func6 ⟨by kernel_rfl, trivial⟩ ?_
  refine hR _ _ ?_
  exact ⟨rfl, S1.nil⟩
 refine J.head (.bool false) (congrArg Value.bool (decide_eq_false fk2)) ?_
 refine J.run 1 K6_5 [(32, .string cm), (31, .bool false), (0, .string s), (1, .string cm), (2, .bool tb)] w1 (by kernel_rfl) ?_
 refine J.callF 33 18 #[.string cm, .string ⟨#[10]⟩] hb18 (by kernel_rfl) (contains10_any cm _) ?_
 rintro _ w2 ⟨rfl, T2⟩
 have S2 : Sep w [] w2 := S1.trans T2
 clear T2 S1
 refine J.run 2 K6_6 [(34, .bool (decide (0 ≤ Lib.indexByte (ls cm) 10))), (0, .string s), (1, .string cm), (2, .bool tb)] w2 (by kernel_rfl) ?_
 rcases Bool.eq_false_or_eq_true (decide (0 ≤ Lib.indexByte (ls cm) 10)) with fk3 | fk3
 ·skip
  refine J.head (.bool true) (congrArg Value.bool fk3) ?_
  refine J.run 5 K6_7 [(6, .bool true)] w2 (by kernel_rfl) ?_
  refine J.ret Tryd.f6 [.bool true] Tryd.func6 ⟨by kernel_rfl, trivial⟩ ?_
  refine hR _ _ ?_
  exact ⟨rfl, S2.nil⟩
 refine J.head (.bool false) (congrArg Value.bool fk3) ?_
 have hcm := no_ten fk3
 refine J.run 10 K6_8 [(35, .string s), (7, .slice none 0 0), (0, .string s), (1, .string cm), (2, .bool tb)] w2 (by kernel_rfl) ?_
 refine J.callF 36 19 #[.string s, .string ⟨#[10]⟩] hb19 (by kernel_rfl) (split10_any s _ (by omega) (tabW_sep hW S2)) ?_
 rintro _ w3 ⟨b1, rfl, T3⟩
 have S3 : Sep w [box b1 ((piecesB 10 s).map Value.string) 9] w3 := S2.trans T3
 clear T3
 have := splitOn_bound 10 (ls s); have := pieces_len 10 s; have := ls_length s
 have hpl : (piecesB 10 s).length = (splitOn 10 (ls s)).length := pieces_len 10 s
 generalize hPB : piecesB 10 s = Pz at *
 refine J.run 5 K6_9 [(38, iv 0), (37, iv (Pz.length : Int)), (36, .slice (some ⟨b1, 0, none⟩) Pz.length Pz.length), (7, .slice none 0 0), (0, .string s), (1, .string cm), (2, .bool tb)] w3 (by kernel_rfl) ?_
 have S4 : Sep w [rowOf (enc1 Value.string) none 0 9 1 ([]), box b1 (Pz.map Value.string) 9] w3 := S3.nilRow 9 1
 have L6_1 : ∀ (mm_ : Nat) (ra : Option Addr) (rc : Nat) (ou : List ByteArray) (i : Int) (w4 : World), (0 ≤ i) → (i ≤ (Pz.length : Int)) → (((ou).length : Int) = 3 * i) → (∀ x ∈ ou, x.size ≤ 10000) → (ou = (Pz.take (i).toNat).flatMap (exB (blB tb) cm)) → Sep w [rowOf (enc1 Value.string) ra rc 9 1 ou, box b1 (Pz.map Value.string) 9] w4 → ((Pz.length : Int) - i).toNat = mm_ → J Tryd.prog 6 97 R K6_9 [(38, iv i), (37, iv (Pz.length : Int)), (36, .slice (some ⟨b1, 0, none⟩) Pz.length Pz.length), (7, .slice ra ou.length rc), (0, .string s), (1, .string cm), (2, .bool tb)] w4 := by
  intro mm1
  induction mm1 using Nat.strongRecOn with
  | _ mm1 ih1 =>
  intro ra rc ou i w4 h0 h1 hol hos hou S5 hm1
  refine J.run 5 K6_10 [(39, .bool (decide (i < (Pz.length : Int)))), (38, iv i), (37, iv (Pz.length : Int)), (36, .slice (some ⟨b1, 0, none⟩) Pz.length Pz.length), (7, .slice ra ou.length rc), (0, .string s), (1, .string cm), (2, .bool tb)] w4 (by kernel_rfl) ?_
  by_cases fk4 : i < (Pz.length : Int)
  rotate_left
  ·skip
   refine J.head (.bool false) (congrArg Value.bool (decide_eq_false fk4)) ?_
   refine J.run 5 K6_24 [(63, .slice ra ou.length rc), (0, .string s)] w4 (by kernel_rfl) ?_
   refine J.callF 64 22 #[.slice ra ou.length rc, .string ⟨#[10]⟩] hb22 (by kernel_rfl) (join_any ra ou.length rc ou (⟨#[10]⟩) _ (row1_ones (S5.nth 0 rfl) _ rfl) (rowOf_plain (S5.nth 0 rfl)) (rowOf_cells (S5.nth 0 rfl)).2.2 (by omega) (Nat.le_trans (joinB_size hos) (by show _ * (10000 + 1) ≤ _; omega))) ?_
   rintro _ w12 ⟨rfl, T7⟩
   have S15 : Sep w [rowOf (enc1 Value.string) ra rc 9 1 ou, box b1 (Pz.map Value.string) 9] w12 := S5.trans T7
   clear T7 S5
   refine J.run 1 K6_25 [(14, .string (joinB ou (⟨#[10]⟩))), (0, .string s)] w12 (by kernel_rfl) ?_
   obtain ⟨jt, hjt⟩ : ∃ x : ByteArray, x = joinB ou (⟨#[10]⟩) := ⟨_, rfl⟩
   refine J.head (.string jt) (congrArg Value.string hjt.symm) ?_
   have hjt2 : jt = joinB ((piecesB 10 s).flatMap (exB (blB tb) cm)) (⟨#[10]⟩ : ByteArray) := by rw [hjt, hou, show i.toNat = Pz.length by omega, List.take_length, hPB]
   refine J.run 8 K6_26 [(67, .bool (decide ((jt.size : Int) > 16384))), (14, .string jt), (0, .string s)] w12 (by kernel_rfl) ?_
   by_cases fk6 : (jt.size : Int) > 16384
   ·skip
    refine J.head (.bool true) (congrArg Value.bool (decide_eq_true fk6)) ?_
    refine J.run 5 K6_27 [(6, .bool true)] w12 (by kernel_rfl) ?_
    refine J.ret Tryd.f6 [.bool true] Tryd.func6 ⟨by kernel_rfl, trivial⟩ ?_
    refine hR _ _ ?_
    exact ⟨rfl, S15.nil⟩
   refine J.head (.bool false) (congrArg Value.bool (decide_eq_false fk6)) ?_
   refine J.run 5 K6_28 [(69, .string s), (14, .string jt)] w12 (by kernel_rfl) ?_
   refine J.callF 70 14 #[.string s] hb14 (by kernel_rfl) (parse_any s _ (by omega) (tabW_sep hW S15)) ?_
   rintro _ w13 ⟨ya1, yc1, yo1, rfl, hy1, hk1, T8⟩
   have S16 : Sep w (rowOf frmE ya1 yc1 34 5 yo1 :: rowOf (enc1 Value.string) ra rc 9 1 ou :: box b1 (Pz.map Value.string) 9 :: tlF yo1) w13 := clm_tail0 [rowOf (enc1 Value.string) ra rc 9 1 ou, box b1 (Pz.map Value.string) 9] (S15.trans T8)
   clear T8
   clear S15
   have hn_yo1 := (rowOf_cells (S16.nth 0 rfl)).2.2
   have hm_yo1 := rowOf_cap (S16.nth 0 rfl)
   refine J.run 4 K6_29 [(73, iv ((parsF s).e)), (72, .agg #[iv ((parsF s).pl), iv ((parsF s).pc)]), (71, .agg #[.slice ya1 yo1.length yc1]), (14, .string jt)] w13 (by kernel_rfl) ?_
   refine J.new S16 15 [.slice none 0 0] 24 (by kernel_rfl) ?_
   intro b4 w14 S17
   refine J.new S17 16 [iv 0, iv 0] 40 (by kernel_rfl) ?_
   intro b5 w15 S18
   refine J.stBox S18 1 24 0 (.agg #[.slice ya1 yo1.length yc1]) [.slice ya1 yo1.length yc1] (box b5 [iv 0, iv 0] 40 :: box b4 [.slice ya1 yo1.length yc1] 24 :: rowOf frmE ya1 yc1 34 5 yo1 :: rowOf (enc1 Value.string) ra rc 9 1 ou :: box b1 (Pz.map Value.string) 9 :: tlF yo1) (by kernel_rfl) rfl (by kernel_rfl) (by kernel_rfl) rfl ?_
   intro w16 S19
   refine J.stBox S19 0 40 0 (.agg #[iv ((parsF s).pl), iv ((parsF s).pc)]) [iv ((parsF s).pl), iv ((parsF s).pc)] (box b5 [iv ((parsF s).pl), iv ((parsF s).pc)] 40 :: box b4 [.slice ya1 yo1.length yc1] 24 :: rowOf frmE ya1 yc1 34 5 yo1 :: rowOf (enc1 Value.string) ra rc 9 1 ou :: box b1 (Pz.map Value.string) 9 :: tlF yo1) (by kernel_rfl) rfl (by kernel_rfl) (by kernel_rfl) rfl ?_
   intro w17 S20
   refine J.run 5 K6_30 [(75, .string jt), (17, iv ((parsF s).e)), (16, .pointer (some ⟨b5, 0, none⟩)), (15, .pointer (some ⟨b4, 0, none⟩))] w17 (by kernel_rfl) ?_
   have hsm : sameP (parsF s) (parsF jt) := par_blanks (blB_ls tb) hcm (by omega) (by omega) hjt2
   refine J.callF 76 14 #[.string jt] hb14 (by kernel_rfl) (parse_any jt _ (by omega) (tabW_sep hW S20)) ?_
   rintro _ w18 ⟨ya2, yc2, yo2, rfl, hy2, hk2, T9⟩
   have S21 : Sep w (rowOf frmE ya2 yc2 34 5 yo2 :: box b5 [iv ((parsF s).pl), iv ((parsF s).pc)] 40 :: box b4 [.slice ya1 yo1.length yc1] 24 :: rowOf frmE ya1 yc1 34 5 yo1 :: rowOf (enc1 Value.string) ra rc 9 1 ou :: box b1 (Pz.map Value.string) 9 :: (tlF yo2 ++ tlF yo1)) w18 := clm_tail [box b5 [iv ((parsF s).pl), iv ((parsF s).pc)] 40, box b4 [.slice ya1 yo1.length yc1] 24, rowOf frmE ya1 yc1 34 5 yo1, rowOf (enc1 Value.string) ra rc 9 1 ou, box b1 (Pz.map Value.string) 9] (S20.trans T9)
   clear T9
   clear S20
   have hn_yo2 := (rowOf_cells (S21.nth 0 rfl)).2.2
   have hm_yo2 := rowOf_cap (S21.nth 0 rfl)
   rw [hsm.1]
   refine J.run 4 K6_31 [(79, iv ((parsF s).e)), (78, .agg #[iv ((parsF jt).pl), iv ((parsF jt).pc)]), (77, .agg #[.slice ya2 yo2.length yc2]), (17, iv ((parsF s).e)), (16, .pointer (some ⟨b5, 0, none⟩)), (15, .pointer (some ⟨b4, 0, none⟩))] w18 (by kernel_rfl) ?_
   refine J.new S21 18 [.slice none 0 0] 24 (by kernel_rfl) ?_
   intro b6 w19 S22
   refine J.new S22 19 [iv 0, iv 0] 40 (by kernel_rfl) ?_
   intro b7 w20 S23
   refine J.stBox S23 1 24 0 (.agg #[.slice ya2 yo2.length yc2]) [.slice ya2 yo2.length yc2] (box b7 [iv 0, iv 0] 40 :: box b6 [.slice ya2 yo2.length yc2] 24 :: rowOf frmE ya2 yc2 34 5 yo2 :: box b5 [iv ((parsF s).pl), iv ((parsF s).pc)] 40 :: box b4 [.slice ya1 yo1.length yc1] 24 :: rowOf frmE ya1 yc1 34 5 yo1 :: rowOf (enc1 Value.string) ra rc 9 1 ou :: box b1 (Pz.map Value.string) 9 :: (tlF yo2 ++ tlF yo1)) (by kernel_rfl) rfl (by kernel_rfl) (by kernel_rfl) rfl ?_
   intro w21 S24
   refine J.stBox S24 0 40 0 (.agg #[iv ((parsF jt).pl), iv ((parsF jt).pc)]) [iv ((parsF jt).pl), iv ((parsF jt).pc)] (box b7 [iv ((parsF jt).pl), iv ((parsF jt).pc)] 40 :: box b6 [.slice ya2 yo2.length yc2] 24 :: rowOf frmE ya2 yc2 34 5 yo2 :: box b5 [iv ((parsF s).pl), iv ((parsF s).pc)] 40 :: box b4 [.slice ya1 yo1.length yc1] 24 :: rowOf frmE ya1 yc1 34 5 yo1 :: rowOf (enc1 Value.string) ra rc 9 1 ou :: box b1 (Pz.map Value.string) 9 :: (tlF yo2 ++ tlF yo1)) (by kernel_rfl) rfl (by kernel_rfl) (by kernel_rfl) rfl ?_
   intro w22 S25
   refine J.run 3 K6_32 [(20, iv ((parsF s).e)), (19, .pointer (some ⟨b7, 0, none⟩)), (18, .pointer (some ⟨b6, 0, none⟩)), (17, iv ((parsF s).e)), (16, .pointer (some ⟨b5, 0, none⟩)), (15, .pointer (some ⟨b4, 0, none⟩))] w22 (by kernel_rfl) ?_
   refine J.drawPlan (fun w_ => Sep w (box b7 [iv ((parsF jt).pl), iv ((parsF jt).pc)] 40 :: box b6 [.slice ya2 yo2.length yc2] 24 :: rowOf frmE ya2 yc2 34 5 yo2 :: box b5 [iv ((parsF s).pl), iv ((parsF s).pc)] 40 :: box b4 [.slice ya1 yo1.length yc1] 24 :: rowOf frmE ya1 yc1 34 5 yo1 :: rowOf (enc1 Value.string) ra rc 9 1 ou :: box b1 (Pz.map Value.string) 9 :: (tlF yo2 ++ tlF yo1)) w_) [(0, true), (1, true), (2, true), (3, true), (4, true), (5, true), (6, false), (7, true), (8, true), (9, true), (10, true), (11, true), (12, true), (13, true), (14, true), (15, true), (16, true), (17, true)] S25 Tryd.mixed (by kernel_rfl) (planOK_of (T := [(0, some 80, 131072), (0, some 81, 1048576), (3, some 82, 3626777458843887524118528), (4, some 83, 4835703278458516698824704), (8, some 84, 9671406556917033397682176), (8, some 85, 9671406556917033397911552), (56, some 86, 67699845898419233783545856), (72, some 87, 87042659012253300578844672), (192, some 88, 154742504910672534362390528), (256, some 89, 309485009821345068724846592), (256, some 90, 309485009821345068724781056), (1792, some 91, 2166395068749415481073467392), (256, some 92, 309485009821345068725305344), (256, some 93, 309485009821345068724781056), (12544, some 94, 15164765481245908367514271744), (18688, some 95, 22592405716958190016909017088), (33024, some 96, 39923566266953513865496756224), (131071, some 6, 79228162514264337593543950336)]) (by kernel_rfl) (by kernel_rfl)) ?_
   intro w23 S26
   refine PB.mk S26 ?_
   refine PL.take 0 80 (iv ((parsF s).e)) (fun _ _ => by kernel_rfl) ?_
   refine PL.take 1 81 (iv ((parsF s).e)) (fun _ _ => by kernel_rfl) ?_
   refine PL.take 2 82 (.bool (((parsF s).e) == ((parsF s).e))) (fun _ _ => by kernel_rfl) ?_
   refine PL.head (.bool true) (congrArg Value.bool (by simp)) ?_
   refine PL.take 3 83 (.bool true) (fun _ _ => by kernel_rfl) ?_
   refine PL.takeOK 4 (fun w_ S_ => OK.ldBox S_ 4 84 24 0 (.agg #[.slice ya1 yo1.length yc1]) (by kernel_rfl) rfl (by kernel_rfl)) rfl ?_
   refine PL.takeOK 5 (fun w_ S_ => OK.ldBox S_ 1 85 24 0 (.agg #[.slice ya2 yo2.length yc2]) (by kernel_rfl) rfl (by kernel_rfl)) rfl ?_
   refine PL.callF 86 16 #[.agg #[.slice ya1 yo1.length yc1], .agg #[.slice ya2 yo2.length yc2]] hb16 (by kernel_rfl) (sameD_any ya1 ya2 yc1 yc2 yo1.length yo2.length yo1 yo2 _ (rowOf_recs (S26.nth 5 rfl) _ rfl (fun _ => rfl) (by decide)) (rowOf_recs (S26.nth 2 rfl) _ rfl (fun _ => rfl) (by decide)) (tl_qm S26 (fun c_ h_ => (show c_ ∈ [box b7 [iv ((parsF jt).pl), iv ((parsF jt).pc)] 40, box b6 [.slice ya2 yo2.length yc2] 24, rowOf frmE ya2 yc2 34 5 yo2, box b5 [iv ((parsF s).pl), iv ((parsF s).pc)] 40, box b4 [.slice ya1 yo1.length yc1] 24, rowOf frmE ya1 yc1 34 5 yo1, rowOf (enc1 Value.string) ra rc 9 1 ou, box b1 (Pz.map Value.string) 9] ++ (tlF yo2 ++ tlF yo1) from List.mem_append.2 (.inr (List.mem_append.2 (.inr (h_)))))) hk1) (tl_qm S26 (fun c_ h_ => (show c_ ∈ [box b7 [iv ((parsF jt).pl), iv ((parsF jt).pc)] 40, box b6 [.slice ya2 yo2.length yc2] 24, rowOf frmE ya2 yc2 34 5 yo2, box b5 [iv ((parsF s).pl), iv ((parsF s).pc)] 40, box b4 [.slice ya1 yo1.length yc1] 24, rowOf frmE ya1 yc1 34 5 yo1, rowOf (enc1 Value.string) ra rc 9 1 ou, box b1 (Pz.map Value.string) 9] ++ (tlF yo2 ++ tlF yo1) from List.mem_append.2 (.inr (List.mem_append.2 (.inl h_))))) hk2) ((by rw [hy1, hy2, hsm.2.1])) (by omega)) ?_
   rintro _ w24 ⟨rfl, T10⟩
   have S27 : Sep w (box b7 [iv ((parsF jt).pl), iv ((parsF jt).pc)] 40 :: box b6 [.slice ya2 yo2.length yc2] 24 :: rowOf frmE ya2 yc2 34 5 yo2 :: box b5 [iv ((parsF s).pl), iv ((parsF s).pc)] 40 :: box b4 [.slice ya1 yo1.length yc1] 24 :: rowOf frmE ya1 yc1 34 5 yo1 :: rowOf (enc1 Value.string) ra rc 9 1 ou :: box b1 (Pz.map Value.string) 9 :: (tlF yo2 ++ tlF yo1)) w24 := S26.trans T10
   clear T10 S26
   refine PB.mk S27 ?_
   refine PL.take 7 87 (.bool true) (fun _ _ => by kernel_rfl) ?_
   refine PL.take 8 88 (.bool true) (fun _ _ => by kernel_rfl) ?_
   refine PL.takeOK 9 (fun w_ S_ => OK.ldBox S_ 3 89 40 0 (.agg #[iv ((parsF s).pl), iv ((parsF s).pc)]) (by kernel_rfl) rfl (by kernel_rfl)) rfl ?_
   refine PL.take 10 90 (.agg #[iv 0, iv 0]) (fun _ _ => by kernel_rfl) ?_
   refine PL.takeOK 11 (fun w_ S_ => OK.eqS 91 true 40 #[iv ((parsF s).pl), iv ((parsF s).pc)] #[iv 0, iv 0] ((((parsF s).pl) == 0) && ((((parsF s).pc) == 0) && true)) (by kernel_rfl) (by kernel_rfl) (by kernel_rfl) ((((parsF s).pl) == 0) && (((parsF s).pc) == 0)) (by simp)) rfl ?_
   refine PL.takeOK 12 (fun w_ S_ => OK.ldBox S_ 0 92 40 0 (.agg #[iv ((parsF jt).pl), iv ((parsF jt).pc)]) (by kernel_rfl) rfl (by kernel_rfl)) rfl ?_
   refine PL.take 13 93 (.agg #[iv 0, iv 0]) (fun _ _ => by kernel_rfl) ?_
   refine PL.takeOK 14 (fun w_ S_ => OK.eqS 94 true 40 #[iv ((parsF jt).pl), iv ((parsF jt).pc)] #[iv 0, iv 0] ((((parsF jt).pl) == 0) && ((((parsF jt).pc) == 0) && true)) (by kernel_rfl) (by kernel_rfl) (by kernel_rfl) ((((parsF jt).pl) == 0) && (((parsF jt).pc) == 0)) (by simp)) rfl ?_
   refine PL.take 15 95 (.bool (((((parsF s).pl) == 0) && (((parsF s).pc) == 0)) == ((((parsF jt).pl) == 0) && (((parsF jt).pc) == 0)))) (fun _ _ => by kernel_rfl) ?_
   refine PL.take 16 96 (.bool (((((parsF s).pl) == 0) && (((parsF s).pc) == 0)) == ((((parsF jt).pl) == 0) && (((parsF jt).pc) == 0)))) (fun _ _ => by kernel_rfl) ?_
   refine PL.take 17 6 (.bool (((((parsF s).pl) == 0) && (((parsF s).pc) == 0)) == ((((parsF jt).pl) == 0) && (((parsF jt).pc) == 0)))) (fun _ _ => by kernel_rfl) ?_
   refine PL.done ?_
   refine J.run 0 (rRest K6_32) [(6, .bool (((((parsF s).pl) == 0) && (((parsF s).pc) == 0)) == ((((parsF jt).pl) == 0) && (((parsF jt).pc) == 0))))] w24 (by kernel_rfl) ?_
   refine J.ret Tryd.f6 [.bool (((((parsF s).pl) == 0) && (((parsF s).pc) == 0)) == ((((parsF jt).pl) == 0) && (((parsF jt).pc) == 0)))] Tryd.func6 ⟨by kernel_rfl, trivial⟩ ?_
   refine hR _ _ ?_
   exact ⟨congrArg Value.bool (pos_eq hsm.2.2), S27.nil⟩
  refine J.head (.bool true) (congrArg Value.bool (decide_eq_true fk4)) ?_
  refine J.run 6 K6_11 [(38, iv i), (37, iv (Pz.length : Int)), (36, .slice (some ⟨b1, 0, none⟩) Pz.length Pz.length), (7, .slice ra ou.length rc), (0, .string s), (1, .string cm), (2, .bool tb)] w4 (by kernel_rfl) ?_
  obtain ⟨p1, hp1, hc1⟩ := (box_ones (S5.nth 1 rfl) Pz.length rfl).at ByteArray.empty (i).toNat (by omega)
  refine J.ok (OK.index 40 49 1 (some ⟨b1, 0, none⟩) p1 Pz.length (i).toNat i (p1.add (i).toNat) (by kernel_rfl) (by kernel_rfl) hp1 (by omega) (by omega) (by rw [Nat.mul_one])) ?_
  refine J.ok (OK.ldCell 41 9 (p1.add (i).toNat) (.string (Pz.getD (i).toNat ByteArray.empty)) (by kernel_rfl) (by kernel_rfl) hc1) ?_
  refine J.run 1 K6_12 [(9, .string (Pz.getD (i).toNat ByteArray.empty)), (38, iv i), (37, iv (Pz.length : Int)), (36, .slice (some ⟨b1, 0, none⟩) Pz.length Pz.length), (7, .slice ra ou.length rc), (0, .string s), (1, .string cm), (2, .bool tb)] w4 (by kernel_rfl) ?_
  obtain ⟨xp, hxp⟩ : ∃ x : ByteArray, x = Pz.getD (i).toNat ByteArray.empty := ⟨_, rfl⟩
  refine J.head (.string xp) (congrArg Value.string hxp.symm) ?_
  have hxs : xp.size ≤ s.size := by rw [hxp, ← hPB]; exact piece_size 10 s i.toNat
  refine J.run 4 K6_13 [(43, .string xp), (38, iv i), (37, iv (Pz.length : Int)), (36, .slice (some ⟨b1, 0, none⟩) Pz.length Pz.length), (7, .slice ra ou.length rc), (0, .string s), (1, .string cm), (2, .bool tb)] w4 (by kernel_rfl) ?_
  refine J.callF 44 20 #[.string xp, .string ⟨#[35]⟩] hb20 (by kernel_rfl) (cut35_any xp _ (by omega) (tabW_sep hW S5)) ?_
  rintro _ w5 ⟨rfl, T4⟩
  have S6 : Sep w [rowOf (enc1 Value.string) ra rc 9 1 ou, box b1 (Pz.map Value.string) 9] w5 := S5.trans T4
  clear T4 S5
  refine J.run 5 K6_14 [(10, .string (⟨(beforeL 35 (ls xp)).toArray⟩ : ByteArray)), (47, .bool ((Lib.cut (ls xp) [35]).2.2)), (46, .string (⟨(Lib.cut (ls xp) [35]).2.1.toArray⟩ : ByteArray)), (38, iv i), (37, iv (Pz.length : Int)), (36, .slice (some ⟨b1, 0, none⟩) Pz.length Pz.length), (7, .slice ra ou.length rc), (0, .string s), (1, .string cm), (2, .bool tb)] w5 (by kernel_rfl) ?_
  obtain ⟨bd, hbd⟩ : ∃ x : ByteArray, x = (⟨(beforeL 35 (ls xp)).toArray⟩ : ByteArray) := ⟨_, rfl⟩
  refine J.head (.string bd) (congrArg Value.string hbd.symm) ?_
  have hbs : bd.size ≤ xp.size := by rw [hbd, ← ls_length, ls_mk, ← ls_length]; exact before_len 35 (ls xp)
  refine J.run 12 K6_15 [(48, .bool tb), (13, .string ⟨#[32, 32]⟩), (10, .string bd), (38, iv i), (37, iv (Pz.length : Int)), (36, .slice (some ⟨b1, 0, none⟩) Pz.length Pz.length), (7, .slice ra ou.length rc), (0, .string s), (1, .string cm), (2, .bool tb)] w5 (by kernel_rfl) ?_
  rcases Bool.eq_false_or_eq_true tb with fk5 | fk5
  ·skip
   refine J.head (.bool true) (congrArg Value.bool fk5) ?_
   refine J.run 9 K6_16 [(52, .string ⟨#[9, 32]⟩), (51, .string bd), (50, .string ⟨#[9, 32]⟩), (49, .slice ra ou.length rc), (38, iv i), (37, iv (Pz.length : Int)), (36, .slice (some ⟨b1, 0, none⟩) Pz.length Pz.length), (0, .string s), (1, .string cm), (2, .bool tb)] w5 (by kernel_rfl) ?_
   refine J.callF 53 21 #[.string bd, .string ⟨#[32]⟩, .string ⟨#[9, 32]⟩] hb21 (by kernel_rfl) (replall_any bd (⟨#[9, 32]⟩ : ByteArray) _ (by omega) (by first | exact .inl rfl | exact .inr rfl) (tabW_sep hW S6)) ?_
   rintro _ w6 ⟨rfl, T5⟩
   have S7 : Sep w [rowOf (enc1 Value.string) ra rc 9 1 ou, box b1 (Pz.map Value.string) 9] w6 := S6.trans T5
   clear T5 S6
   obtain ⟨rp, hrp⟩ : ∃ x : ByteArray, x = (⟨(repB 32 (ls (⟨#[9, 32]⟩ : ByteArray)) (ls bd)).toArray⟩ : ByteArray) := ⟨_, rfl⟩
   refine J.head (.string rp) (congrArg Value.string hrp.symm) ?_
   have hrs : rp.size ≤ 2 * bd.size := repB_size rfl bd hrp
   obtain ⟨tt1, htt1⟩ : ∃ y : ByteArray, y = (⟨#[9, 32]⟩ : ByteArray) ++ rp := ⟨_, rfl⟩
   have hstt1 : tt1.size = 2 + rp.size := by rw [htt1]; exact size_app _ _
   refine J.ok (OK.cat 54 (⟨#[9, 32]⟩ : ByteArray) rp tt1 (by kernel_rfl) (by rw [← size_app, ← htt1]; omega) (htt1.symm)) ?_
   obtain ⟨tt2, htt2⟩ : ∃ y : ByteArray, y = tt1 ++ (⟨#[32, 35]⟩ : ByteArray) := ⟨_, rfl⟩
   have hstt2 : tt2.size = tt1.size + 2 := by rw [htt2]; exact size_app _ _
   refine J.ok (OK.cat 55 tt1 (⟨#[32, 35]⟩ : ByteArray) tt2 (by kernel_rfl) (by rw [← size_app, ← htt2]; omega) (htt2.symm)) ?_
   refine J.run 1 K6_17 [(56, .string cm), (55, .string tt2), (49, .slice ra ou.length rc), (38, iv i), (37, iv (Pz.length : Int)), (36, .slice (some ⟨b1, 0, none⟩) Pz.length Pz.length), (0, .string s), (1, .string cm), (2, .bool tb)] w6 (by kernel_rfl) ?_
   obtain ⟨tt3, htt3⟩ : ∃ y : ByteArray, y = tt2 ++ cm := ⟨_, rfl⟩
   have hstt3 : tt3.size = tt2.size + cm.size := by rw [htt3]; exact size_app _ _
   refine J.ok (OK.cat 57 tt2 cm tt3 (by kernel_rfl) (by rw [← size_app, ← htt3]; omega) (htt3.symm)) ?_
   refine J.run 1 K6_18 [(58, .string cm), (57, .string tt3), (49, .slice ra ou.length rc), (38, iv i), (37, iv (Pz.length : Int)), (36, .slice (some ⟨b1, 0, none⟩) Pz.length Pz.length), (0, .string s), (1, .string cm), (2, .bool tb)] w6 (by kernel_rfl) ?_
   obtain ⟨tt4, htt4⟩ : ∃ y : ByteArray, y = (⟨#[35]⟩ : ByteArray) ++ cm := ⟨_, rfl⟩
   have hstt4 : tt4.size = 1 + cm.size := by rw [htt4]; exact size_app _ _
   refine J.ok (OK.cat 59 (⟨#[35]⟩ : ByteArray) cm tt4 (by kernel_rfl) (by rw [← size_app, ← htt4]; omega) (htt4.symm)) ?_
   refine J.newSlice S7 60 3 [.string tt3, .string ByteArray.empty, .string tt4] 9 (by kernel_rfl) ?_
   intro b2 w7 S8
   have hz1 := (show Ones Value.string w7 (some ⟨b2, 0, none⟩) 3 [tt3, ByteArray.empty, tt4] from ⟨rfl, box_cells (S8.nth 0 rfl)⟩)
   have := hz1.len_eq
   refine J.appendN (enc1 Value.string) S8 1 ou ([tt3, ByteArray.empty, tt4]) 3 (by first | omega | (simp; omega)) 61 49 (.string ByteArray.empty) 16 (some ⟨b2, 0, none⟩) 3 rfl (by kernel_rfl) (by kernel_rfl) (by kernel_rfl) (by kernel_rfl) (by decide) ((show Ones Value.string w7 (some ⟨b2, 0, none⟩) 3 [tt3, ByteArray.empty, tt4] from ⟨rfl, box_cells (S8.nth 0 rfl)⟩)).enc (fun h_ => Ones.nil (h_ ▸ hz1)) (fun _ => rfl) (fun _ => rfl) (⟨by first | omega | (simp; omega), by first | omega | (simp; omega)⟩) ?_
   intro ra1 rc1 w8 S9
   replace S9 : Sep w [box b2 [.string tt3, .string ByteArray.empty, .string tt4] 9, rowOf (enc1 Value.string) ra1 rc1 9 1 (ou ++ ([tt3, ByteArray.empty, tt4])), box b1 (Pz.map Value.string) 9] w8 := S9
   refine J.run 5 K6_19 [(62, iv (IntKind.wrap .i64 (i + 1))), (7, .slice ra1 ((ou ++ ([tt3, ByteArray.empty, tt4])).length) rc1), (37, iv (Pz.length : Int)), (36, .slice (some ⟨b1, 0, none⟩) Pz.length Pz.length), (0, .string s), (1, .string cm), (2, .bool tb)] w8 (by kernel_rfl) ?_
   refine J.head (iv (i + 1)) (congrArg (Value.int .i64) (IntWalk.i64_in _ (by omega))) ?_
   refine J.run 3 K6_9 [(38, iv (i + 1)), (7, .slice ra1 ((ou ++ ([tt3, ByteArray.empty, tt4])).length) rc1), (37, iv (Pz.length : Int)), (36, .slice (some ⟨b1, 0, none⟩) Pz.length Pz.length), (0, .string s), (1, .string cm), (2, .bool tb)] w8 (by kernel_rfl) ?_
   have S10 : Sep w [rowOf (enc1 Value.string) ra1 rc1 9 1 (ou ++ ([tt3, ByteArray.empty, tt4])), box b1 (Pz.map Value.string) 9] w8 := S9.erase 0
   clear S9
   refine J.run 0 K6_9 [(38, iv (i + 1)), (37, iv (Pz.length : Int)), (36, .slice (some ⟨b1, 0, none⟩) Pz.length Pz.length), (7, .slice ra1 ((ou ++ ([tt3, ByteArray.empty, tt4])).length) rc1), (0, .string s), (1, .string cm), (2, .bool tb)] w8 (by kernel_rfl) ?_
   exact ih1 _ (show ((Pz.length : Int) - (i + 1)).toNat < mm1 from by omega) ra1 rc1 (ou ++ ([tt3, ByteArray.empty, tt4])) (i + 1) w8 (by omega) (by omega) (by rw [List.length_append]; simp only [List.length_cons, List.length_nil]; omega) (three_size hos (by omega) (by omega)) (by exact ex_step hou h0 (by omega) hxp (by rw [htt4, htt3, htt2, htt1, hrp, hbd]; show _ = exB (blB tb) cm xp; unfold exB blB; rw [fk5]; rfl)) S10 rfl
  refine J.head (.bool false) (congrArg Value.bool fk5) ?_
  refine J.run 7 K6_20 [(52, .string ⟨#[32, 32]⟩), (51, .string bd), (50, .string ⟨#[32, 32]⟩), (49, .slice ra ou.length rc), (38, iv i), (37, iv (Pz.length : Int)), (36, .slice (some ⟨b1, 0, none⟩) Pz.length Pz.length), (0, .string s), (1, .string cm), (2, .bool tb)] w5 (by kernel_rfl) ?_
  refine J.callF 53 21 #[.string bd, .string ⟨#[32]⟩, .string ⟨#[32, 32]⟩] hb21 (by kernel_rfl) (replall_any bd (⟨#[32, 32]⟩ : ByteArray) _ (by omega) (by first | exact .inl rfl | exact .inr rfl) (tabW_sep hW S6)) ?_
  rintro _ w9 ⟨rfl, T6⟩
  have S11 : Sep w [rowOf (enc1 Value.string) ra rc 9 1 ou, box b1 (Pz.map Value.string) 9] w9 := S6.trans T6
  clear T6 S6
  obtain ⟨rp, hrp⟩ : ∃ x : ByteArray, x = (⟨(repB 32 (ls (⟨#[32, 32]⟩ : ByteArray)) (ls bd)).toArray⟩ : ByteArray) := ⟨_, rfl⟩
  refine J.head (.string rp) (congrArg Value.string hrp.symm) ?_
  have hrs : rp.size ≤ 2 * bd.size := repB_size rfl bd hrp
  obtain ⟨tt5, htt5⟩ : ∃ y : ByteArray, y = (⟨#[32, 32]⟩ : ByteArray) ++ rp := ⟨_, rfl⟩
  have hstt5 : tt5.size = 2 + rp.size := by rw [htt5]; exact size_app _ _
  refine J.ok (OK.cat 54 (⟨#[32, 32]⟩ : ByteArray) rp tt5 (by kernel_rfl) (by rw [← size_app, ← htt5]; omega) (htt5.symm)) ?_
  obtain ⟨tt6, htt6⟩ : ∃ y : ByteArray, y = tt5 ++ (⟨#[32, 35]⟩ : ByteArray) := ⟨_, rfl⟩
  have hstt6 : tt6.size = tt5.size + 2 := by rw [htt6]; exact size_app _ _
  refine J.ok (OK.cat 55 tt5 (⟨#[32, 35]⟩ : ByteArray) tt6 (by kernel_rfl) (by rw [← size_app, ← htt6]; omega) (htt6.symm)) ?_
  refine J.run 1 K6_21 [(56, .string cm), (55, .string tt6), (49, .slice ra ou.length rc), (38, iv i), (37, iv (Pz.length : Int)), (36, .slice (some ⟨b1, 0, none⟩) Pz.length Pz.length), (0, .string s), (1, .string cm), (2, .bool tb)] w9 (by kernel_rfl) ?_
  obtain ⟨tt7, htt7⟩ : ∃ y : ByteArray, y = tt6 ++ cm := ⟨_, rfl⟩
  have hstt7 : tt7.size = tt6.size + cm.size := by rw [htt7]; exact size_app _ _
  refine J.ok (OK.cat 57 tt6 cm tt7 (by kernel_rfl) (by rw [← size_app, ← htt7]; omega) (htt7.symm)) ?_
  refine J.run 1 K6_22 [(58, .string cm), (57, .string tt7), (49, .slice ra ou.length rc), (38, iv i), (37, iv (Pz.length : Int)), (36, .slice (some ⟨b1, 0, none⟩) Pz.length Pz.length), (0, .string s), (1, .string cm), (2, .bool tb)] w9 (by kernel_rfl) ?_
  obtain ⟨tt8, htt8⟩ : ∃ y : ByteArray, y = (⟨#[35]⟩ : ByteArray) ++ cm := ⟨_, rfl⟩
  have hstt8 : tt8.size = 1 + cm.size := by rw [htt8]; exact size_app _ _
  refine J.ok (OK.cat 59 (⟨#[35]⟩ : ByteArray) cm tt8 (by kernel_rfl) (by rw [← size_app, ← htt8]; omega) (htt8.symm)) ?_
  refine J.newSlice S11 60 3 [.string tt7, .string ByteArray.empty, .string tt8] 9 (by kernel_rfl) ?_
  intro b3 w10 S12
  have hz2 := (show Ones Value.string w10 (some ⟨b3, 0, none⟩) 3 [tt7, ByteArray.empty, tt8] from ⟨rfl, box_cells (S12.nth 0 rfl)⟩)
  have := hz2.len_eq
  refine J.appendN (enc1 Value.string) S12 1 ou ([tt7, ByteArray.empty, tt8]) 3 (by first | omega | (simp; omega)) 61 49 (.string ByteArray.empty) 16 (some ⟨b3, 0, none⟩) 3 rfl (by kernel_rfl) (by kernel_rfl) (by kernel_rfl) (by kernel_rfl) (by decide) ((show Ones Value.string w10 (some ⟨b3, 0, none⟩) 3 [tt7, ByteArray.empty, tt8] from ⟨rfl, box_cells (S12.nth 0 rfl)⟩)).enc (fun h_ => Ones.nil (h_ ▸ hz2)) (fun _ => rfl) (fun _ => rfl) (⟨by first | omega | (simp; omega), by first | omega | (simp; omega)⟩) ?_
  intro ra2 rc2 w11 S13
  replace S13 : Sep w [box b3 [.string tt7, .string ByteArray.empty, .string tt8] 9, rowOf (enc1 Value.string) ra2 rc2 9 1 (ou ++ ([tt7, ByteArray.empty, tt8])), box b1 (Pz.map Value.string) 9] w11 := S13
  refine J.run 5 K6_23 [(62, iv (IntKind.wrap .i64 (i + 1))), (7, .slice ra2 ((ou ++ ([tt7, ByteArray.empty, tt8])).length) rc2), (37, iv (Pz.length : Int)), (36, .slice (some ⟨b1, 0, none⟩) Pz.length Pz.length), (0, .string s), (1, .string cm), (2, .bool tb)] w11 (by kernel_rfl) ?_
  refine J.head (iv (i + 1)) (congrArg (Value.int .i64) (IntWalk.i64_in _ (by omega))) ?_
  refine J.run 3 K6_9 [(38, iv (i + 1)), (7, .slice ra2 ((ou ++ ([tt7, ByteArray.empty, tt8])).length) rc2), (37, iv (Pz.length : Int)), (36, .slice (some ⟨b1, 0, none⟩) Pz.length Pz.length), (0, .string s), (1, .string cm), (2, .bool tb)] w11 (by kernel_rfl) ?_
  have S14 : Sep w [rowOf (enc1 Value.string) ra2 rc2 9 1 (ou ++ ([tt7, ByteArray.empty, tt8])), box b1 (Pz.map Value.string) 9] w11 := S13.erase 0
  clear S13
  refine J.run 0 K6_9 [(38, iv (i + 1)), (37, iv (Pz.length : Int)), (36, .slice (some ⟨b1, 0, none⟩) Pz.length Pz.length), (7, .slice ra2 ((ou ++ ([tt7, ByteArray.empty, tt8])).length) rc2), (0, .string s), (1, .string cm), (2, .bool tb)] w11 (by kernel_rfl) ?_
  exact ih1 _ (show ((Pz.length : Int) - (i + 1)).toNat < mm1 from by omega) ra2 rc2 (ou ++ ([tt7, ByteArray.empty, tt8])) (i + 1) w11 (by omega) (by omega) (by rw [List.length_append]; simp only [List.length_cons, List.length_nil]; omega) (three_size hos (by omega) (by omega)) (by exact ex_step hou h0 (by omega) hxp (by rw [htt8, htt7, htt6, htt5, hrp, hbd]; show _ = exB (blB tb) cm xp; unfold exB blB; rw [fk5]; rfl)) S14 rfl
 exact L6_1 _ none 0 ([]) 0 w3 (by omega) (by omega) (by simp) (fun x hx => by cases hx) (rfl) S4 rfl

end
end Go.Proofs.YthiklimfffhbaaaDoor

