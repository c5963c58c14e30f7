/- Walks of functions of this seat, printed by a program over the engine. Conditions: as each theorem says. -/
import Derived.Test.YthhdaackhfffiaaDoorZxD17
namespace Go.Proofs.YthhdaackhfffiaaDoor
open Go.Eng Go.RowKit
set_option linter.unusedSimpArgs false
set_option linter.unusedVariables false
theorem lines_all : ∀ (ps : List (List UInt8)) (ln : Int) (n : Nat), (∀ q ∈ ps, q.length ≤ n) → ∀ L ∈ linesF ps ln, L.length ≠ 0 ∧ L.length ≤ n ∧ ∀ k, (L.getD k tk0).gText.size ≤ n
  | [], _, _, _, L, hL => by cases hL
  | q :: ps, ln, n, h, L, hL => by
    have ih := lines_all ps (ln + 1) n (fun q hq => h q (List.mem_cons_of_mem _ hq))
    have hq := h q List.mem_cons_self
    have hb := before_len 35 q
    rw [linesF] at hL
    unfold consL at hL
    split at hL
    · exact ih L hL
    · rename_i hne
      rcases List.mem_cons.1 hL with rfl | hL
      · refine ⟨fun e => hne (List.eq_nil_of_length_eq_zero e), ?_, fun k => lexW_getD _ _ _ n (by omega) k⟩
        have := lexW_len (beforeL 35 q) [] ln 1
        rw [if_pos rfl] at this; omega
      · exact ih L hL
theorem splitOn_mem {c : UInt8} {l q : List UInt8} (h : q ∈ splitOn c l) : q.length ≤ l.length := by
  have h1 := splitOn_sum c l
  have h2 := mem_flatten_len h
  have h3 := splitOn_ne c l
  have h4 : 1 ≤ (splitOn c l).length := by
    cases hs : splitOn c l with
    | nil => exact absurd hs h3
    | cons _ _ => simp
  omega
theorem lines_at {s : ByteArray} {wo : List Ln} (hwo : linesF (splitOn 10 (ls s)) 1 = wo.map fun x => x.gS_l) (hwn : ∀ x ∈ wo, x.gS_n = x.gS_l.length) (hs : s.size ≤ 1000000) {i : Nat} (hi : i < wo.length) : (wo.getD i (⟨none, 0, 0, []⟩ : Ln)).gS_n ≠ 0 ∧ (wo.getD i (⟨none, 0, 0, []⟩ : Ln)).gS_n ≤ 1000000 ∧ ∀ k, ((wo.getD i (⟨none, 0, 0, []⟩ : Ln)).gS_l.getD k tk0).gText.size ≤ 1000000 := by
  have hm : wo.getD i (⟨none, 0, 0, []⟩ : Ln) ∈ wo := by rw [List.getD_eq_getElem?_getD, List.getElem?_eq_getElem hi]; exact List.getElem_mem hi
  have h1 := lines_all (splitOn 10 (ls s)) 1 s.size (fun q hq => by rw [← ls_length]; exact splitOn_mem hq) (wo.getD i (⟨none, 0, 0, []⟩ : Ln)).gS_l (by rw [hwo]; exact List.mem_map.2 ⟨_, hm, rfl⟩)
  rw [hwn _ hm]
  exact ⟨h1.1, by omega, fun k => by have := h1.2.2 k; omega⟩
theorem lines_len {wo : List Ln} (hwn : ∀ x ∈ wo, x.gS_n = x.gS_l.length) {i : Nat} (hi : i < wo.length) : (wo.getD i (⟨none, 0, 0, []⟩ : Ln)).gS_n = (wo.getD i (⟨none, 0, 0, []⟩ : Ln)).gS_l.length :=
  hwn _ (by rw [List.getD_eq_getElem?_getD, List.getElem?_eq_getElem hi]; exact List.getElem_mem hi)
section
variable {s : ByteArray} {wo : List Ln} {out : List Dr} {i bf : Int}
theorem rp_line (hQ : parF s = parG ((wo.map fun x => x.gS_l).drop i.toNat) out) (h0 : 0 ≤ i) (hi : i < (wo.length : Int)) : parF s = match lineS (wo.getD i.toNat (⟨none, 0, 0, []⟩ : Ln)).gS_l (fullD out) (bfD out) with
    | none => parG ((wo.map fun x => x.gS_l).drop (i + 1).toNat) (out ++ [lineV (wo.getD i.toNat (⟨none, 0, 0, []⟩ : Ln)).gS_l])
    | some x => ⟨[], ((wo.getD i.toNat (⟨none, 0, 0, []⟩ : Ln)).gS_l.getD x.2.toNat tk0).gPlace_Line, ((wo.getD i.toNat (⟨none, 0, 0, []⟩ : Ln)).gS_l.getD x.2.toNat tk0).gPlace_Column, x.1⟩ := by
  have h1 : (wo.map fun x => x.gS_l).drop i.toNat = (wo.getD i.toNat (⟨none, 0, 0, []⟩ : Ln)).gS_l :: (wo.map fun x => x.gS_l).drop (i + 1).toNat := by
    rw [List.drop_eq_getElem_cons (by rw [List.length_map]; omega), List.getElem_map, show (i + 1).toNat = i.toNat + 1 by omega, List.getD_eq_getElem?_getD, List.getElem?_eq_getElem (by omega)]; rfl
  rw [hQ, h1]; rfl
theorem rp_full (hQ : parF s = parG ((wo.map fun x => x.gS_l).drop i.toNat) out) (h0 : 0 ≤ i) (hi : i < (wo.length : Int)) (hl : (out.length : Int) = i) (h2 : i = 200) (hne : (wo.getD i.toNat (⟨none, 0, 0, []⟩ : Ln)).gS_l.length ≠ 0) : parF s = ⟨[], ((wo.getD i.toNat (⟨none, 0, 0, []⟩ : Ln)).gS_l.getD 0 tk0).gPlace_Line, ((wo.getD i.toNat (⟨none, 0, 0, []⟩ : Ln)).gS_l.getD 0 tk0).gPlace_Column, 5⟩ := by
  rw [rp_line hQ h0 hi]
  have h3 : lineS (wo.getD i.toNat (⟨none, 0, 0, []⟩ : Ln)).gS_l (fullD out) (bfD out) = some (5, 0) := up1 (chk_some (chk_hit (need_pass rfl rfl (by omega)) (by unfold fullD; exact decide_eq_true (by omega))))
  rw [h3]; rfl
theorem rp_bad (hQ : parF s = parG ((wo.map fun x => x.gS_l).drop i.toNat) out) (h0 : 0 ≤ i) (hi : i < (wo.length : Int)) (hb : bf = bfD out) (h2 : (out.length : Int) ≠ 200) (he : errO (lineS (wo.getD i.toNat (⟨none, 0, 0, []⟩ : Ln)).gS_l false bf) ≠ 0) : parF s = ⟨[], rlL (wo.getD i.toNat (⟨none, 0, 0, []⟩ : Ln)).gS_l bf, rlC (wo.getD i.toNat (⟨none, 0, 0, []⟩ : Ln)).gS_l bf, errO (lineS (wo.getD i.toNat (⟨none, 0, 0, []⟩ : Ln)).gS_l false bf)⟩ := by
  rw [rp_line hQ h0 hi, show fullD out = false from decide_eq_false h2, ← hb]
  cases hs : lineS (wo.getD i.toNat (⟨none, 0, 0, []⟩ : Ln)).gS_l false bf with
  | none => rw [hs] at he; exact absurd rfl he
  | some x => obtain ⟨_, ⟨e2, e3⟩, _⟩ := rl_some hs; rw [e2, e3]; rfl
theorem rp_ok (hQ : parF s = parG ((wo.map fun x => x.gS_l).drop i.toNat) out) (h0 : 0 ≤ i) (hi : i < (wo.length : Int)) (hb : bf = bfD out) (h2 : (out.length : Int) ≠ 200) (he : ¬ errO (lineS (wo.getD i.toNat (⟨none, 0, 0, []⟩ : Ln)).gS_l false bf) ≠ 0) (hne : (wo.getD i.toNat (⟨none, 0, 0, []⟩ : Ln)).gS_l.length ≠ 0) : parF s = parG ((wo.map fun x => x.gS_l).drop (i + 1).toNat) (out ++ [rlV (wo.getD i.toNat (⟨none, 0, 0, []⟩ : Ln)).gS_l bf]) := by
  rw [rp_line hQ h0 hi, show fullD out = false from decide_eq_false h2, ← hb]
  cases hs : lineS (wo.getD i.toNat (⟨none, 0, 0, []⟩ : Ln)).gS_l false bf with
  | none => rw [(rl_none hs).1]
  | some x => rw [hs] at he; exact absurd (line_err _ _ hne x hs).1 he
theorem rp_end (hQ : parF s = parG ((wo.map fun x => x.gS_l).drop i.toNat) out) (hi : (wo.length : Int) ≤ i) (ho : out.length = 0) : parF s = ⟨[], 0, 0, 4⟩ := by
  rw [hQ, List.drop_eq_nil_of_le (by rw [List.length_map]; omega)]; show (if out.length = 0 then _ else _) = _; rw [if_pos ho]
theorem rp_done (hQ : parF s = parG ((wo.map fun x => x.gS_l).drop i.toNat) out) (hi : (wo.length : Int) ≤ i) (ho : ¬ out.length = 0) : parF s = ⟨out, 0, 0, 0⟩ := by
  rw [hQ, List.drop_eq_nil_of_le (by rw [List.length_map]; omega)]; show (if out.length = 0 then _ else _) = _; rw [if_neg ho]
end
theorem rp_before (out : List Dr) (d : Dr) : d.gAt = bfD (out ++ [d]) := by
  unfold bfD
  rw [if_neg (by simp), List.length_append, List.length_singleton, show out.length + 1 - 1 = out.length by omega, List.getD_eq_getElem?_getD, List.getElem?_append_right (Nat.le_refl _), Nat.sub_self]; rfl

theorem hb19 : HasBody Tryd.prog 19 := fun _ _ => by kernel_rfl
noncomputable def K19_0 : List Item := adv 3 [] (bodyOf Tryd.f19)
noncomputable def K19_1 : List Item := adv 9 [] (popK K19_0)
noncomputable def K19_2 : List Item := adv 5 [true] K19_1
noncomputable def K19_3 : List Item := adv 2 [] (popK K19_2)
noncomputable def K19_4 : List Item := adv 5 [false] K19_1
noncomputable def K19_5 : List Item := adv 17 [] (popK K19_4)
noncomputable def K19_6 : List Item := adv 8 [] K19_5
noncomputable def K19_7 : List Item := adv 10 [true] K19_6
noncomputable def K19_8 : List Item := adv 2 [true] K19_7
noncomputable def K19_9 : List Item := adv 6 [false] K19_7
noncomputable def K19_10 : List Item := adv 1 [] (popK (popK K19_9))
noncomputable def K19_11 : List Item := adv 4 [] (popK K19_10)
noncomputable def K19_12 : List Item := adv 8 [] (popK (popK (popK (popK K19_11))))
noncomputable def K19_13 : List Item := adv 5 [false] K19_12
noncomputable def K19_14 : List Item := adv 4 [] (popK (popK (popK K19_13)))
noncomputable def K19_15 : List Item := adv 6 [] (popK K19_14)
noncomputable def K19_16 : List Item := adv 2 [true] K19_12
noncomputable def K19_17 : List Item := adv 9 [false] K19_6
noncomputable def K19_18 : List Item := adv 5 [true] K19_17
noncomputable def K19_19 : List Item := adv 2 [] (popK K19_18)
noncomputable def K19_20 : List Item := adv 7 [false] K19_17
noncomputable def K19_21 : List Item := adv 2 [] (popK K19_20)
set_option maxRecDepth 20000 in
set_option maxHeartbeats 20000000 in
theorem rparse28_any (s : ByteArray) (w : World) (hs : s.size ≤ 9223372036854775807) : Ret Tryd.prog 19 #[.string s] w (fun v w' => ∃ a cap, v = .tuple #[.slice a (parF s).l.length cap, .agg #[iv (parF s).pl, iv (parF s).pc], iv (parF s).e] ∧ Sep w [rowOf drE a cap 27 5 (parF s).l] w') := by
 have S0 := Sep.refl w
 refine Ret.named fun R hR => ?_
 refine Ret.of_J (N := 59) [(0, .string s)] Tryd.func19 rfl rfl (Nat.le_of_ble_eq_true (by kernel_rfl)) (by kernel_rfl) ?_
 refine J.run 3 K19_0 [(0, .string s)] w (by kernel_rfl) ?_
 refine J.new S0 3 [iv 0, iv 0] 39 (by kernel_rfl) ?_
 intro b1 w1 S1
 refine J.run 9 K19_1 [(14, .bool (decide ((s.size : Int) > 16384))), (3, .pointer (some ⟨b1, 0, none⟩)), (0, .string s)] w1 (by kernel_rfl) ?_
 by_cases fk1 : (s.size : Int) > 16384
 ·skip
  refine J.head (.bool true) (congrArg Value.bool (decide_eq_true fk1)) ?_
  refine J.run 5 K19_2 [(2, .slice none 0 0), (15, .agg #[iv 0, iv 0]), (3, .pointer (some ⟨b1, 0, none⟩))] w1 (by kernel_rfl) ?_
  refine J.stBox S1 0 39 0 (.agg #[iv 0, iv 0]) [iv 0, iv 0] [box b1 [iv 0, iv 0] 39] (by kernel_rfl) rfl (by kernel_rfl) (by kernel_rfl) rfl ?_
  intro w2 S2
  refine J.run 2 K19_3 [(4, iv 5), (2, .slice none 0 0), (3, .pointer (some ⟨b1, 0, none⟩))] w2 (by kernel_rfl) ?_
  refine J.ret Tryd.f19 [.slice none 0 0, .agg #[iv 0, iv 0], iv 5] Tryd.func19 ⟨by kernel_rfl, ⟨⟨b1, 0, none⟩, by kernel_rfl, ldV_run (S2.nth 0 rfl) (by kernel_rfl)⟩, by kernel_rfl, trivial⟩ ?_
  refine hR _ _ ?_
  have e_ : parF s = ⟨[], 0, 0, 5⟩ := by unfold parF; rw [if_pos (by omega)]
  exact ⟨none, 0, by rw [e_]; rfl, by rw [e_]; exact S2.nil.nilRow 27 5⟩
 ·skip
  refine J.head (.bool false) (congrArg Value.bool (decide_eq_false fk1)) ?_
  refine J.run 5 K19_4 [(16, .string s), (3, .pointer (some ⟨b1, 0, none⟩))] w1 (by kernel_rfl) ?_
  refine J.callF 17 37 #[.string s] hb37 (by kernel_rfl) (rwords_any s _ (by omega)) ?_
  rintro _ w3 ⟨wa, wc, wo, rfl, hwo, ⟨hwn, hwl⟩, T1⟩
  have S3 : Sep w (box b1 [iv 0, iv 0] 39 :: rowOf lnE wa wc 71 1 wo :: tlF wo) w3 := Sep.swap (S1.trans T1)
  clear T1
  refine J.run 17 K19_5 [(8, iv 0), (7, iv (-1)), (6, .slice none 0 0), (5, .slice wa wo.length wc), (3, .pointer (some ⟨b1, 0, none⟩))] w3 (by kernel_rfl) ?_
  have S4 : Sep w (rowOf drE none 0 27 5 ([]) :: box b1 [iv 0, iv 0] 39 :: rowOf lnE wa wc 71 1 wo :: tlF wo) w3 := S3.nilRow 27 5
  have L19_1 : ∀ (mm_ : Nat) (ra : Option Addr) (rc : Nat) (out : List Dr) (bf : Int) (i : Int) (w4 : World), (0 ≤ i) → (i ≤ (wo.length : Int)) → (((out).length : Int) = i) → (bf = bfD out) → (parF s = parG ((wo.map fun x => x.gS_l).drop (i).toNat) out) → Sep w (rowOf drE ra rc 27 5 out :: box b1 [iv 0, iv 0] 39 :: rowOf lnE wa wc 71 1 wo :: tlF wo) w4 → ((wo.length : Int) - i).toNat = mm_ → J Tryd.prog 19 59 R K19_5 [(8, iv i), (7, iv bf), (6, .slice ra out.length rc), (5, .slice wa wo.length wc), (3, .pointer (some ⟨b1, 0, none⟩))] w4 := by
   intro mm1
   induction mm1 using Nat.strongRecOn with
   | _ mm1 ih1 =>
   intro ra rc out bf i w4 h0 h1 hol hbf hQ S5 hm1
   skip
   refine J.run 8 K19_6 [(21, .bool (decide (i < (wo.length : Int)))), (8, iv i), (7, iv bf), (6, .slice ra out.length rc), (5, .slice wa wo.length wc), (3, .pointer (some ⟨b1, 0, none⟩))] w4 (by kernel_rfl) ?_
   by_cases fk2 : i < (wo.length : Int)
   ·skip
    refine J.head (.bool true) (congrArg Value.bool (decide_eq_true fk2)) ?_
    obtain ⟨hne, hnL, hts⟩ := lines_at hwo hwn (by omega) (i := (i).toNat) (by omega)
    refine J.run 10 K19_7 [(25, .bool (i == 200)), (8, iv i), (7, iv bf), (6, .slice ra out.length rc), (5, .slice wa wo.length wc), (3, .pointer (some ⟨b1, 0, none⟩))] w4 (by kernel_rfl) ?_
    by_cases fk3 : i = 200
    ·skip
     refine J.head (.bool true) (congrArg Value.bool (beq_iff_eq.2 fk3)) ?_
     refine J.run 2 K19_8 [(8, iv i), (5, .slice wa wo.length wc), (3, .pointer (some ⟨b1, 0, none⟩))] w4 (by kernel_rfl) ?_
     obtain ⟨p1, hp1, hc1⟩ := (rowOf_recs (S5.nth 2 rfl) _ rfl (fun _ => rfl) (by decide)).at (⟨none, 0, 0, []⟩ : Ln) (i).toNat (by omega)
     obtain ⟨p2, hp2, hc2⟩ := (tl_at (L1 := [rowOf drE ra rc 27 5 out, box b1 [iv 0, iv 0] 39, rowOf lnE wa wc 71 1 wo]) S5 hwn (i := (i).toNat) (by omega)).at tk0 0 (by omega)
     refine J.drawPlan (fun w_ => Sep w (rowOf drE ra rc 27 5 out :: rowOf lnE wa wc 71 1 wo :: tlF wo) w_) [(0, true), (1, true), (2, true), (7, true), (3, false), (4, true), (5, true), (6, false), (8, false), (9, true)] S5 Tryd.mixed (by kernel_rfl) (planOK_of (T := [(0, some 26, 32), (0, some 27, 256), (3, some 28, 201326592), (4, some 29, 268435456), (8, some 30, 536870912), (16, some 31, 1073741824), (32, some 32, 2147483648), (0, some 2, 0), (255, none, 4294967304), (511, some 4, 0)]) (by kernel_rfl) (by kernel_rfl)) ?_
     intro w5 S6
     refine PB.mk (S6.erase 1) ?_
     refine PL.take 0 26 (.slice wa wo.length wc) (fun _ _ => by kernel_rfl) ?_
     refine PL.take 1 27 (iv i) (fun _ _ => by kernel_rfl) ?_
     obtain ⟨p3, hp3, hc3⟩ := (rowOf_recs (S6.nth 2 rfl) _ rfl (fun _ => rfl) (by decide)).at (⟨none, 0, 0, []⟩ : Ln) (i).toNat (by omega)
     refine PL.takeOK 2 (fun w_ S_ => OK.index 28 79 1 wa p3 wo.length (i).toNat i (p3.add ((i).toNat * 1)) (by kernel_rfl) (by kernel_rfl) hp3 (by omega) (by omega) rfl) rfl ?_
     refine PL.take 7 2 (.slice none 0 0) (fun _ _ => by kernel_rfl) ?_
     refine PL.ok (OK.ldCell 29 71 (p3.add ((i).toNat * 1)) (.slice ((wo.getD (i).toNat (⟨none, 0, 0, []⟩ : Ln)).gS_a) ((wo.getD (i).toNat (⟨none, 0, 0, []⟩ : Ln)).gS_n) ((wo.getD (i).toNat (⟨none, 0, 0, []⟩ : Ln)).gS_c)) (by kernel_rfl) (by kernel_rfl) (cell_zero (hc3 0 _ rfl))) ?_
     refine PB.mk (S6.erase 1) ?_
     obtain ⟨p4, hp4, hc4⟩ := (tl_at (L1 := [rowOf drE ra rc 27 5 out, box b1 [iv 0, iv 0] 39, rowOf lnE wa wc 71 1 wo]) S6 hwn (i := (i).toNat) (by omega)).at tk0 0 (by omega)
     refine PL.takeOK 4 (fun w_ S_ => OK.index 30 71 4 ((wo.getD (i).toNat (⟨none, 0, 0, []⟩ : Ln)).gS_a) p4 ((wo.getD (i).toNat (⟨none, 0, 0, []⟩ : Ln)).gS_n) 0 0 (p4.add (0 * 4)) (by kernel_rfl) (by kernel_rfl) hp4 (by omega) (by omega) rfl) rfl ?_
     refine PL.take 5 31 (.pointer (some ((p4.add (0 * 4)).add 2))) (fun _ _ => by kernel_rfl) ?_
     refine PL.ok (OK.ldCells 32 39 ((p4.add (0 * 4)).add 2) [iv ((((wo.getD (i).toNat (⟨none, 0, 0, []⟩ : Ln)).gS_l).getD 0 tk0).gPlace_Line), iv ((((wo.getD (i).toNat (⟨none, 0, 0, []⟩ : Ln)).gS_l).getD 0 tk0).gPlace_Column)] (by kernel_rfl) (by kernel_rfl) (by kernel_rfl) (fun j_ v_ hj_ => by rw [addr_add_add]; exact (hc4) (2 + j_) v_ (by rcases j_ with _ | _ | j_ <;> first | exact hj_ | (cases hj_; done) | (simp at hj_; done)))) ?_
     refine PB.mk (S6.erase 1) ?_
     refine PL.stBox S6 1 39 0 (.agg #[iv ((((wo.getD (i).toNat (⟨none, 0, 0, []⟩ : Ln)).gS_l).getD 0 tk0).gPlace_Line), iv ((((wo.getD (i).toNat (⟨none, 0, 0, []⟩ : Ln)).gS_l).getD 0 tk0).gPlace_Column)]) [iv ((((wo.getD (i).toNat (⟨none, 0, 0, []⟩ : Ln)).gS_l).getD 0 tk0).gPlace_Line), iv ((((wo.getD (i).toNat (⟨none, 0, 0, []⟩ : Ln)).gS_l).getD 0 tk0).gPlace_Column)] (rowOf drE ra rc 27 5 out :: box b1 [iv ((((wo.getD (i).toNat (⟨none, 0, 0, []⟩ : Ln)).gS_l).getD 0 tk0).gPlace_Line), iv ((((wo.getD (i).toNat (⟨none, 0, 0, []⟩ : Ln)).gS_l).getD 0 tk0).gPlace_Column)] 39 :: rowOf lnE wa wc 71 1 wo :: tlF wo) (by kernel_rfl) rfl (by kernel_rfl) (by kernel_rfl) rfl ?_
     intro w6 S7
     refine PB.mk (S7.erase 1) ?_
     refine PL.take 9 4 (iv 5) (fun _ _ => by kernel_rfl) ?_
     refine PL.done ?_
     refine J.run 0 (rRest K19_8) [(4, iv 5), (2, .slice none 0 0), (3, .pointer (some ⟨b1, 0, none⟩))] w6 (by kernel_rfl) ?_
     refine J.ret Tryd.f19 [.slice none 0 0, .agg #[iv ((((wo.getD (i).toNat (⟨none, 0, 0, []⟩ : Ln)).gS_l).getD 0 tk0).gPlace_Line), iv ((((wo.getD (i).toNat (⟨none, 0, 0, []⟩ : Ln)).gS_l).getD 0 tk0).gPlace_Column)], iv 5] Tryd.func19 ⟨by kernel_rfl, ⟨⟨b1, 0, none⟩, by kernel_rfl, ldV_run (S7.nth 1 rfl) (by kernel_rfl)⟩, by kernel_rfl, trivial⟩ ?_
     refine hR _ _ ?_
     have e_ : parF s = ⟨[], (((wo.getD (i).toNat (⟨none, 0, 0, []⟩ : Ln)).gS_l).getD 0 tk0).gPlace_Line, (((wo.getD (i).toNat (⟨none, 0, 0, []⟩ : Ln)).gS_l).getD 0 tk0).gPlace_Column, 5⟩ := rp_full hQ h0 (by omega) (by omega) (by omega) (by rw [← lines_len hwn (by omega)]; exact hne)
     exact ⟨none, 0, by rw [e_]; rfl, by rw [e_]; exact S7.nil.nilRow 27 5⟩
    ·skip
     refine J.head (.bool false) (congrArg Value.bool (beq_eq_false_iff_ne.2 fk3)) ?_
     refine J.run 6 K19_9 [(35, iv i), (34, .slice wa wo.length wc), (8, iv i), (7, iv bf), (6, .slice ra out.length rc), (5, .slice wa wo.length wc), (3, .pointer (some ⟨b1, 0, none⟩))] w4 (by kernel_rfl) ?_
     obtain ⟨p5, hp5, hc5⟩ := (rowOf_recs (S5.nth 2 rfl) _ rfl (fun _ => rfl) (by decide)).at (⟨none, 0, 0, []⟩ : Ln) (i).toNat (by omega)
     refine J.ok (OK.index 36 79 1 wa p5 wo.length (i).toNat i (p5.add ((i).toNat * 1)) (by kernel_rfl) (by kernel_rfl) hp5 (by omega) (by omega) rfl) ?_
     refine J.ok (OK.ldCell 37 71 (p5.add ((i).toNat * 1)) (.slice ((wo.getD (i).toNat (⟨none, 0, 0, []⟩ : Ln)).gS_a) ((wo.getD (i).toNat (⟨none, 0, 0, []⟩ : Ln)).gS_n) ((wo.getD (i).toNat (⟨none, 0, 0, []⟩ : Ln)).gS_c)) (by kernel_rfl) (by kernel_rfl) (cell_zero (hc5 0 _ rfl))) ?_
     refine J.run 1 K19_10 [(38, iv bf), (37, .slice ((wo.getD (i).toNat (⟨none, 0, 0, []⟩ : Ln)).gS_a) ((wo.getD (i).toNat (⟨none, 0, 0, []⟩ : Ln)).gS_n) ((wo.getD (i).toNat (⟨none, 0, 0, []⟩ : Ln)).gS_c)), (8, iv i), (6, .slice ra out.length rc), (5, .slice wa wo.length wc), (3, .pointer (some ⟨b1, 0, none⟩))] w4 (by kernel_rfl) ?_
     refine J.callF 39 38 #[.slice ((wo.getD (i).toNat (⟨none, 0, 0, []⟩ : Ln)).gS_a) ((wo.getD (i).toNat (⟨none, 0, 0, []⟩ : Ln)).gS_n) ((wo.getD (i).toNat (⟨none, 0, 0, []⟩ : Ln)).gS_c), iv bf] hb38 (by kernel_rfl) (rline_any ((wo.getD (i).toNat (⟨none, 0, 0, []⟩ : Ln)).gS_a) ((wo.getD (i).toNat (⟨none, 0, 0, []⟩ : Ln)).gS_n) ((wo.getD (i).toNat (⟨none, 0, 0, []⟩ : Ln)).gS_c) ((wo.getD (i).toNat (⟨none, 0, 0, []⟩ : Ln)).gS_l) bf _ ((tl_at (L1 := [rowOf drE ra rc 27 5 out, box b1 [iv 0, iv 0] 39, rowOf lnE wa wc 71 1 wo]) S5 hwn (i := (i).toNat) (by omega))) hne (by omega) hts) ?_
     rintro _ w7 ⟨rfl, T2⟩
     have S8 : Sep w (rowOf drE ra rc 27 5 out :: box b1 [iv 0, iv 0] 39 :: rowOf lnE wa wc 71 1 wo :: tlF wo) w7 := S5.trans T2
     clear T2 S5
     refine J.run 4 K19_11 [(42, iv (errO (lineS ((wo.getD (i).toNat (⟨none, 0, 0, []⟩ : Ln)).gS_l) false bf))), (41, .agg #[iv (rlL ((wo.getD (i).toNat (⟨none, 0, 0, []⟩ : Ln)).gS_l) bf), iv (rlC ((wo.getD (i).toNat (⟨none, 0, 0, []⟩ : Ln)).gS_l) bf)]), (40, .agg #[iv ((rlV ((wo.getD (i).toNat (⟨none, 0, 0, []⟩ : Ln)).gS_l) bf).gAt), iv ((rlV ((wo.getD (i).toNat (⟨none, 0, 0, []⟩ : Ln)).gS_l) bf).gPedal), iv ((rlV ((wo.getD (i).toNat (⟨none, 0, 0, []⟩ : Ln)).gS_l) bf).gBrake), iv ((rlV ((wo.getD (i).toNat (⟨none, 0, 0, []⟩ : Ln)).gS_l) bf).gGear), iv ((rlV ((wo.getD (i).toNat (⟨none, 0, 0, []⟩ : Ln)).gS_l) bf).gLoad)]), (8, iv i), (6, .slice ra out.length rc), (5, .slice wa wo.length wc), (3, .pointer (some ⟨b1, 0, none⟩))] w7 (by kernel_rfl) ?_
     refine J.new S8 9 [iv 0, iv 0, iv 0, iv 0, iv 0] 27 (by kernel_rfl) ?_
     intro b2 w8 S9
     refine J.new S9 10 [iv 0, iv 0] 39 (by kernel_rfl) ?_
     intro b3 w9 S10
     refine J.stBox S10 1 27 0 (.agg #[iv ((rlV ((wo.getD (i).toNat (⟨none, 0, 0, []⟩ : Ln)).gS_l) bf).gAt), iv ((rlV ((wo.getD (i).toNat (⟨none, 0, 0, []⟩ : Ln)).gS_l) bf).gPedal), iv ((rlV ((wo.getD (i).toNat (⟨none, 0, 0, []⟩ : Ln)).gS_l) bf).gBrake), iv ((rlV ((wo.getD (i).toNat (⟨none, 0, 0, []⟩ : Ln)).gS_l) bf).gGear), iv ((rlV ((wo.getD (i).toNat (⟨none, 0, 0, []⟩ : Ln)).gS_l) bf).gLoad)]) [iv ((rlV ((wo.getD (i).toNat (⟨none, 0, 0, []⟩ : Ln)).gS_l) bf).gAt), iv ((rlV ((wo.getD (i).toNat (⟨none, 0, 0, []⟩ : Ln)).gS_l) bf).gPedal), iv ((rlV ((wo.getD (i).toNat (⟨none, 0, 0, []⟩ : Ln)).gS_l) bf).gBrake), iv ((rlV ((wo.getD (i).toNat (⟨none, 0, 0, []⟩ : Ln)).gS_l) bf).gGear), iv ((rlV ((wo.getD (i).toNat (⟨none, 0, 0, []⟩ : Ln)).gS_l) bf).gLoad)] (box b3 [iv 0, iv 0] 39 :: box b2 [iv ((rlV ((wo.getD (i).toNat (⟨none, 0, 0, []⟩ : Ln)).gS_l) bf).gAt), iv ((rlV ((wo.getD (i).toNat (⟨none, 0, 0, []⟩ : Ln)).gS_l) bf).gPedal), iv ((rlV ((wo.getD (i).toNat (⟨none, 0, 0, []⟩ : Ln)).gS_l) bf).gBrake), iv ((rlV ((wo.getD (i).toNat (⟨none, 0, 0, []⟩ : Ln)).gS_l) bf).gGear), iv ((rlV ((wo.getD (i).toNat (⟨none, 0, 0, []⟩ : Ln)).gS_l) bf).gLoad)] 27 :: rowOf drE ra rc 27 5 out :: box b1 [iv 0, iv 0] 39 :: rowOf lnE wa wc 71 1 wo :: tlF wo) (by kernel_rfl) rfl (by kernel_rfl) (by kernel_rfl) rfl ?_
     intro w10 S11
     refine J.stBox S11 0 39 0 (.agg #[iv (rlL ((wo.getD (i).toNat (⟨none, 0, 0, []⟩ : Ln)).gS_l) bf), iv (rlC ((wo.getD (i).toNat (⟨none, 0, 0, []⟩ : Ln)).gS_l) bf)]) [iv (rlL ((wo.getD (i).toNat (⟨none, 0, 0, []⟩ : Ln)).gS_l) bf), iv (rlC ((wo.getD (i).toNat (⟨none, 0, 0, []⟩ : Ln)).gS_l) bf)] (box b3 [iv (rlL ((wo.getD (i).toNat (⟨none, 0, 0, []⟩ : Ln)).gS_l) bf), iv (rlC ((wo.getD (i).toNat (⟨none, 0, 0, []⟩ : Ln)).gS_l) bf)] 39 :: box b2 [iv ((rlV ((wo.getD (i).toNat (⟨none, 0, 0, []⟩ : Ln)).gS_l) bf).gAt), iv ((rlV ((wo.getD (i).toNat (⟨none, 0, 0, []⟩ : Ln)).gS_l) bf).gPedal), iv ((rlV ((wo.getD (i).toNat (⟨none, 0, 0, []⟩ : Ln)).gS_l) bf).gBrake), iv ((rlV ((wo.getD (i).toNat (⟨none, 0, 0, []⟩ : Ln)).gS_l) bf).gGear), iv ((rlV ((wo.getD (i).toNat (⟨none, 0, 0, []⟩ : Ln)).gS_l) bf).gLoad)] 27 :: rowOf drE ra rc 27 5 out :: box b1 [iv 0, iv 0] 39 :: rowOf lnE wa wc 71 1 wo :: tlF wo) (by kernel_rfl) rfl (by kernel_rfl) (by kernel_rfl) rfl ?_
     intro w11 S12
     refine J.run 8 K19_12 [(44, .bool ((errO (lineS ((wo.getD (i).toNat (⟨none, 0, 0, []⟩ : Ln)).gS_l) false bf)) != 0)), (11, iv (errO (lineS ((wo.getD (i).toNat (⟨none, 0, 0, []⟩ : Ln)).gS_l) false bf))), (10, .pointer (some ⟨b3, 0, none⟩)), (9, .pointer (some ⟨b2, 0, none⟩)), (8, iv i), (6, .slice ra out.length rc), (5, .slice wa wo.length wc), (3, .pointer (some ⟨b1, 0, none⟩))] w11 (by kernel_rfl) ?_
     by_cases fk4 : (errO (lineS ((wo.getD (i).toNat (⟨none, 0, 0, []⟩ : Ln)).gS_l) false bf)) = 0
     ·skip
      refine J.head (.bool false) (congrArg Value.bool (bne_eq_false_iff_eq.2 fk4)) ?_
      refine J.run 5 K19_13 [(47, .slice ra out.length rc), (9, .pointer (some ⟨b2, 0, none⟩)), (8, iv i), (5, .slice wa wo.length wc), (3, .pointer (some ⟨b1, 0, none⟩))] w11 (by kernel_rfl) ?_
      refine J.ok (OK.ldBox S12 1 48 27 0 (.agg #[iv ((rlV ((wo.getD (i).toNat (⟨none, 0, 0, []⟩ : Ln)).gS_l) bf).gAt), iv ((rlV ((wo.getD (i).toNat (⟨none, 0, 0, []⟩ : Ln)).gS_l) bf).gPedal), iv ((rlV ((wo.getD (i).toNat (⟨none, 0, 0, []⟩ : Ln)).gS_l) bf).gBrake), iv ((rlV ((wo.getD (i).toNat (⟨none, 0, 0, []⟩ : Ln)).gS_l) bf).gGear), iv ((rlV ((wo.getD (i).toNat (⟨none, 0, 0, []⟩ : Ln)).gS_l) bf).gLoad)]) (by kernel_rfl) rfl (by kernel_rfl)) ?_
      refine J.newSlice S12 49 1 [iv ((rlV ((wo.getD (i).toNat (⟨none, 0, 0, []⟩ : Ln)).gS_l) bf).gAt), iv ((rlV ((wo.getD (i).toNat (⟨none, 0, 0, []⟩ : Ln)).gS_l) bf).gPedal), iv ((rlV ((wo.getD (i).toNat (⟨none, 0, 0, []⟩ : Ln)).gS_l) bf).gBrake), iv ((rlV ((wo.getD (i).toNat (⟨none, 0, 0, []⟩ : Ln)).gS_l) bf).gGear), iv ((rlV ((wo.getD (i).toNat (⟨none, 0, 0, []⟩ : Ln)).gS_l) bf).gLoad)] 27 (by kernel_rfl) ?_
      intro b4 w12 S13
      refine J.append drE S13 3 out (⟨(rlV ((wo.getD (i).toNat (⟨none, 0, 0, []⟩ : Ln)).gS_l) bf).gAt, (rlV ((wo.getD (i).toNat (⟨none, 0, 0, []⟩ : Ln)).gS_l) bf).gPedal, (rlV ((wo.getD (i).toNat (⟨none, 0, 0, []⟩ : Ln)).gS_l) bf).gBrake, (rlV ((wo.getD (i).toNat (⟨none, 0, 0, []⟩ : Ln)).gS_l) bf).gGear, (rlV ((wo.getD (i).toNat (⟨none, 0, 0, []⟩ : Ln)).gS_l) bf).gLoad⟩ : Dr) 50 22 (.agg #[iv 0, iv 0, iv 0, iv 0, iv 0]) 40 ⟨b4, 0, none⟩ 1 rfl (by kernel_rfl) (by kernel_rfl) (by kernel_rfl) (by kernel_rfl) (by decide) (box_cells (S13.nth 0 rfl)) (by kernel_rfl) (by kernel_rfl) (⟨by omega, by omega⟩) ?_
      intro ra1 rc1 w13 S14
      replace S14 : Sep w (box b4 [iv ((rlV ((wo.getD (i).toNat (⟨none, 0, 0, []⟩ : Ln)).gS_l) bf).gAt), iv ((rlV ((wo.getD (i).toNat (⟨none, 0, 0, []⟩ : Ln)).gS_l) bf).gPedal), iv ((rlV ((wo.getD (i).toNat (⟨none, 0, 0, []⟩ : Ln)).gS_l) bf).gBrake), iv ((rlV ((wo.getD (i).toNat (⟨none, 0, 0, []⟩ : Ln)).gS_l) bf).gGear), iv ((rlV ((wo.getD (i).toNat (⟨none, 0, 0, []⟩ : Ln)).gS_l) bf).gLoad)] 27 :: box b3 [iv (rlL ((wo.getD (i).toNat (⟨none, 0, 0, []⟩ : Ln)).gS_l) bf), iv (rlC ((wo.getD (i).toNat (⟨none, 0, 0, []⟩ : Ln)).gS_l) bf)] 39 :: box b2 [iv ((rlV ((wo.getD (i).toNat (⟨none, 0, 0, []⟩ : Ln)).gS_l) bf).gAt), iv ((rlV ((wo.getD (i).toNat (⟨none, 0, 0, []⟩ : Ln)).gS_l) bf).gPedal), iv ((rlV ((wo.getD (i).toNat (⟨none, 0, 0, []⟩ : Ln)).gS_l) bf).gBrake), iv ((rlV ((wo.getD (i).toNat (⟨none, 0, 0, []⟩ : Ln)).gS_l) bf).gGear), iv ((rlV ((wo.getD (i).toNat (⟨none, 0, 0, []⟩ : Ln)).gS_l) bf).gLoad)] 27 :: rowOf drE ra1 rc1 27 5 (out ++ [(⟨(rlV ((wo.getD (i).toNat (⟨none, 0, 0, []⟩ : Ln)).gS_l) bf).gAt, (rlV ((wo.getD (i).toNat (⟨none, 0, 0, []⟩ : Ln)).gS_l) bf).gPedal, (rlV ((wo.getD (i).toNat (⟨none, 0, 0, []⟩ : Ln)).gS_l) bf).gBrake, (rlV ((wo.getD (i).toNat (⟨none, 0, 0, []⟩ : Ln)).gS_l) bf).gGear, (rlV ((wo.getD (i).toNat (⟨none, 0, 0, []⟩ : Ln)).gS_l) bf).gLoad⟩ : Dr)]) :: box b1 [iv 0, iv 0] 39 :: rowOf lnE wa wc 71 1 wo :: tlF wo) w13 := S14
      have S15 : Sep w (box b3 [iv (rlL ((wo.getD (i).toNat (⟨none, 0, 0, []⟩ : Ln)).gS_l) bf), iv (rlC ((wo.getD (i).toNat (⟨none, 0, 0, []⟩ : Ln)).gS_l) bf)] 39 :: box b2 [iv ((rlV ((wo.getD (i).toNat (⟨none, 0, 0, []⟩ : Ln)).gS_l) bf).gAt), iv ((rlV ((wo.getD (i).toNat (⟨none, 0, 0, []⟩ : Ln)).gS_l) bf).gPedal), iv ((rlV ((wo.getD (i).toNat (⟨none, 0, 0, []⟩ : Ln)).gS_l) bf).gBrake), iv ((rlV ((wo.getD (i).toNat (⟨none, 0, 0, []⟩ : Ln)).gS_l) bf).gGear), iv ((rlV ((wo.getD (i).toNat (⟨none, 0, 0, []⟩ : Ln)).gS_l) bf).gLoad)] 27 :: rowOf drE ra1 rc1 27 5 (out ++ [(⟨(rlV ((wo.getD (i).toNat (⟨none, 0, 0, []⟩ : Ln)).gS_l) bf).gAt, (rlV ((wo.getD (i).toNat (⟨none, 0, 0, []⟩ : Ln)).gS_l) bf).gPedal, (rlV ((wo.getD (i).toNat (⟨none, 0, 0, []⟩ : Ln)).gS_l) bf).gBrake, (rlV ((wo.getD (i).toNat (⟨none, 0, 0, []⟩ : Ln)).gS_l) bf).gGear, (rlV ((wo.getD (i).toNat (⟨none, 0, 0, []⟩ : Ln)).gS_l) bf).gLoad⟩ : Dr)]) :: box b1 [iv 0, iv 0] 39 :: rowOf lnE wa wc 71 1 wo :: tlF wo) w13 := S14.erase 0
      clear S14
      refine J.run 4 K19_14 [(51, .pointer (some ⟨b2, 0, none⟩)), (6, .slice ra1 ((out ++ [(⟨(rlV ((wo.getD (i).toNat (⟨none, 0, 0, []⟩ : Ln)).gS_l) bf).gAt, (rlV ((wo.getD (i).toNat (⟨none, 0, 0, []⟩ : Ln)).gS_l) bf).gPedal, (rlV ((wo.getD (i).toNat (⟨none, 0, 0, []⟩ : Ln)).gS_l) bf).gBrake, (rlV ((wo.getD (i).toNat (⟨none, 0, 0, []⟩ : Ln)).gS_l) bf).gGear, (rlV ((wo.getD (i).toNat (⟨none, 0, 0, []⟩ : Ln)).gS_l) bf).gLoad⟩ : Dr)]).length) rc1), (8, iv i), (5, .slice wa wo.length wc), (3, .pointer (some ⟨b1, 0, none⟩))] w13 (by kernel_rfl) ?_
      refine J.ok (OK.ldBox S15 1 52 3 0 (iv ((rlV ((wo.getD (i).toNat (⟨none, 0, 0, []⟩ : Ln)).gS_l) bf).gAt)) (by kernel_rfl) rfl (by kernel_rfl)) ?_
      refine J.run 6 K19_15 [(23, iv (IntKind.wrap .i64 (i + 1))), (7, iv ((rlV ((wo.getD (i).toNat (⟨none, 0, 0, []⟩ : Ln)).gS_l) bf).gAt)), (6, .slice ra1 ((out ++ [(⟨(rlV ((wo.getD (i).toNat (⟨none, 0, 0, []⟩ : Ln)).gS_l) bf).gAt, (rlV ((wo.getD (i).toNat (⟨none, 0, 0, []⟩ : Ln)).gS_l) bf).gPedal, (rlV ((wo.getD (i).toNat (⟨none, 0, 0, []⟩ : Ln)).gS_l) bf).gBrake, (rlV ((wo.getD (i).toNat (⟨none, 0, 0, []⟩ : Ln)).gS_l) bf).gGear, (rlV ((wo.getD (i).toNat (⟨none, 0, 0, []⟩ : Ln)).gS_l) bf).gLoad⟩ : Dr)]).length) rc1), (5, .slice wa wo.length wc), (3, .pointer (some ⟨b1, 0, none⟩))] w13 (by kernel_rfl) ?_
      refine J.head (iv (i + 1)) (congrArg (Value.int .i64) (IntWalk.i64_in _ (by omega))) ?_
      refine J.run 3 K19_5 [(8, iv (i + 1)), (7, iv ((rlV ((wo.getD (i).toNat (⟨none, 0, 0, []⟩ : Ln)).gS_l) bf).gAt)), (6, .slice ra1 ((out ++ [(⟨(rlV ((wo.getD (i).toNat (⟨none, 0, 0, []⟩ : Ln)).gS_l) bf).gAt, (rlV ((wo.getD (i).toNat (⟨none, 0, 0, []⟩ : Ln)).gS_l) bf).gPedal, (rlV ((wo.getD (i).toNat (⟨none, 0, 0, []⟩ : Ln)).gS_l) bf).gBrake, (rlV ((wo.getD (i).toNat (⟨none, 0, 0, []⟩ : Ln)).gS_l) bf).gGear, (rlV ((wo.getD (i).toNat (⟨none, 0, 0, []⟩ : Ln)).gS_l) bf).gLoad⟩ : Dr)]).length) rc1), (5, .slice wa wo.length wc), (3, .pointer (some ⟨b1, 0, none⟩))] w13 (by kernel_rfl) ?_
      have S16 : Sep w (box b3 [iv (rlL ((wo.getD (i).toNat (⟨none, 0, 0, []⟩ : Ln)).gS_l) bf), iv (rlC ((wo.getD (i).toNat (⟨none, 0, 0, []⟩ : Ln)).gS_l) bf)] 39 :: rowOf drE ra1 rc1 27 5 (out ++ [(⟨(rlV ((wo.getD (i).toNat (⟨none, 0, 0, []⟩ : Ln)).gS_l) bf).gAt, (rlV ((wo.getD (i).toNat (⟨none, 0, 0, []⟩ : Ln)).gS_l) bf).gPedal, (rlV ((wo.getD (i).toNat (⟨none, 0, 0, []⟩ : Ln)).gS_l) bf).gBrake, (rlV ((wo.getD (i).toNat (⟨none, 0, 0, []⟩ : Ln)).gS_l) bf).gGear, (rlV ((wo.getD (i).toNat (⟨none, 0, 0, []⟩ : Ln)).gS_l) bf).gLoad⟩ : Dr)]) :: box b1 [iv 0, iv 0] 39 :: rowOf lnE wa wc 71 1 wo :: tlF wo) w13 := S15.erase 1
      clear S15
      have S17 : Sep w (rowOf drE ra1 rc1 27 5 (out ++ [(⟨(rlV ((wo.getD (i).toNat (⟨none, 0, 0, []⟩ : Ln)).gS_l) bf).gAt, (rlV ((wo.getD (i).toNat (⟨none, 0, 0, []⟩ : Ln)).gS_l) bf).gPedal, (rlV ((wo.getD (i).toNat (⟨none, 0, 0, []⟩ : Ln)).gS_l) bf).gBrake, (rlV ((wo.getD (i).toNat (⟨none, 0, 0, []⟩ : Ln)).gS_l) bf).gGear, (rlV ((wo.getD (i).toNat (⟨none, 0, 0, []⟩ : Ln)).gS_l) bf).gLoad⟩ : Dr)]) :: box b1 [iv 0, iv 0] 39 :: rowOf lnE wa wc 71 1 wo :: tlF wo) w13 := S16.erase 0
      clear S16
      refine J.run 0 K19_5 [(8, iv (i + 1)), (7, iv ((rlV ((wo.getD (i).toNat (⟨none, 0, 0, []⟩ : Ln)).gS_l) bf).gAt)), (6, .slice ra1 ((out ++ [(⟨(rlV ((wo.getD (i).toNat (⟨none, 0, 0, []⟩ : Ln)).gS_l) bf).gAt, (rlV ((wo.getD (i).toNat (⟨none, 0, 0, []⟩ : Ln)).gS_l) bf).gPedal, (rlV ((wo.getD (i).toNat (⟨none, 0, 0, []⟩ : Ln)).gS_l) bf).gBrake, (rlV ((wo.getD (i).toNat (⟨none, 0, 0, []⟩ : Ln)).gS_l) bf).gGear, (rlV ((wo.getD (i).toNat (⟨none, 0, 0, []⟩ : Ln)).gS_l) bf).gLoad⟩ : Dr)]).length) rc1), (5, .slice wa wo.length wc), (3, .pointer (some ⟨b1, 0, none⟩))] w13 (by kernel_rfl) ?_
      exact ih1 _ (show ((wo.length : Int) - (i + 1)).toNat < mm1 from by omega) ra1 rc1 (out ++ [(⟨(rlV ((wo.getD (i).toNat (⟨none, 0, 0, []⟩ : Ln)).gS_l) bf).gAt, (rlV ((wo.getD (i).toNat (⟨none, 0, 0, []⟩ : Ln)).gS_l) bf).gPedal, (rlV ((wo.getD (i).toNat (⟨none, 0, 0, []⟩ : Ln)).gS_l) bf).gBrake, (rlV ((wo.getD (i).toNat (⟨none, 0, 0, []⟩ : Ln)).gS_l) bf).gGear, (rlV ((wo.getD (i).toNat (⟨none, 0, 0, []⟩ : Ln)).gS_l) bf).gLoad⟩ : Dr)]) ((rlV ((wo.getD (i).toNat (⟨none, 0, 0, []⟩ : Ln)).gS_l) bf).gAt) (i + 1) w13 (by omega) (by omega) (by (try rw [List.length_append, List.length_singleton]); omega) (rp_before _ _) (rp_ok hQ h0 (by omega) hbf (by omega) (by omega) (by rw [← lines_len hwn (by omega)]; exact hne)) S17 rfl
     ·skip
      refine J.head (.bool true) (congrArg Value.bool (bne_iff_ne.2 fk4)) ?_
      refine J.run 2 K19_16 [(11, iv (errO (lineS ((wo.getD (i).toNat (⟨none, 0, 0, []⟩ : Ln)).gS_l) false bf))), (10, .pointer (some ⟨b3, 0, none⟩)), (3, .pointer (some ⟨b1, 0, none⟩))] w11 (by kernel_rfl) ?_
      refine J.drawPlan (fun w_ => Sep w (box b3 [iv (rlL ((wo.getD (i).toNat (⟨none, 0, 0, []⟩ : Ln)).gS_l) bf), iv (rlC ((wo.getD (i).toNat (⟨none, 0, 0, []⟩ : Ln)).gS_l) bf)] 39 :: box b2 [iv ((rlV ((wo.getD (i).toNat (⟨none, 0, 0, []⟩ : Ln)).gS_l) bf).gAt), iv ((rlV ((wo.getD (i).toNat (⟨none, 0, 0, []⟩ : Ln)).gS_l) bf).gPedal), iv ((rlV ((wo.getD (i).toNat (⟨none, 0, 0, []⟩ : Ln)).gS_l) bf).gBrake), iv ((rlV ((wo.getD (i).toNat (⟨none, 0, 0, []⟩ : Ln)).gS_l) bf).gGear), iv ((rlV ((wo.getD (i).toNat (⟨none, 0, 0, []⟩ : Ln)).gS_l) bf).gLoad)] 27 :: rowOf drE ra rc 27 5 out :: rowOf lnE wa wc 71 1 wo :: tlF wo) w_) [(0, true), (1, true), (2, true), (3, false), (4, true)] S12 Tryd.mixed (by kernel_rfl) (planOK_of (T := [(0, some 45, 1024), (0, some 46, 2048), (0, some 2, 0), (5, none, 35184372088840), (15, some 4, 70368744177664)]) (by kernel_rfl) (by kernel_rfl)) ?_
      intro w14 S18
      refine PB.mk (S18.erase 3) ?_
      refine PL.takeOK 0 (fun w_ S_ => OK.ldBox S_ 0 45 39 0 (.agg #[iv (rlL ((wo.getD (i).toNat (⟨none, 0, 0, []⟩ : Ln)).gS_l) bf), iv (rlC ((wo.getD (i).toNat (⟨none, 0, 0, []⟩ : Ln)).gS_l) bf)]) (by kernel_rfl) rfl (by kernel_rfl)) rfl ?_
      refine PL.take 1 46 (iv (errO (lineS ((wo.getD (i).toNat (⟨none, 0, 0, []⟩ : Ln)).gS_l) false bf))) (fun _ _ => by kernel_rfl) ?_
      refine PL.take 2 2 (.slice none 0 0) (fun _ _ => by kernel_rfl) ?_
      refine PL.stBox S18 3 39 0 (.agg #[iv (rlL ((wo.getD (i).toNat (⟨none, 0, 0, []⟩ : Ln)).gS_l) bf), iv (rlC ((wo.getD (i).toNat (⟨none, 0, 0, []⟩ : Ln)).gS_l) bf)]) [iv (rlL ((wo.getD (i).toNat (⟨none, 0, 0, []⟩ : Ln)).gS_l) bf), iv (rlC ((wo.getD (i).toNat (⟨none, 0, 0, []⟩ : Ln)).gS_l) bf)] (box b3 [iv (rlL ((wo.getD (i).toNat (⟨none, 0, 0, []⟩ : Ln)).gS_l) bf), iv (rlC ((wo.getD (i).toNat (⟨none, 0, 0, []⟩ : Ln)).gS_l) bf)] 39 :: box b2 [iv ((rlV ((wo.getD (i).toNat (⟨none, 0, 0, []⟩ : Ln)).gS_l) bf).gAt), iv ((rlV ((wo.getD (i).toNat (⟨none, 0, 0, []⟩ : Ln)).gS_l) bf).gPedal), iv ((rlV ((wo.getD (i).toNat (⟨none, 0, 0, []⟩ : Ln)).gS_l) bf).gBrake), iv ((rlV ((wo.getD (i).toNat (⟨none, 0, 0, []⟩ : Ln)).gS_l) bf).gGear), iv ((rlV ((wo.getD (i).toNat (⟨none, 0, 0, []⟩ : Ln)).gS_l) bf).gLoad)] 27 :: rowOf drE ra rc 27 5 out :: box b1 [iv (rlL ((wo.getD (i).toNat (⟨none, 0, 0, []⟩ : Ln)).gS_l) bf), iv (rlC ((wo.getD (i).toNat (⟨none, 0, 0, []⟩ : Ln)).gS_l) bf)] 39 :: rowOf lnE wa wc 71 1 wo :: tlF wo) (by kernel_rfl) rfl (by kernel_rfl) (by kernel_rfl) rfl ?_
      intro w15 S19
      refine PB.mk (S19.erase 3) ?_
      refine PL.take 4 4 (iv (errO (lineS ((wo.getD (i).toNat (⟨none, 0, 0, []⟩ : Ln)).gS_l) false bf))) (fun _ _ => by kernel_rfl) ?_
      refine PL.done ?_
      refine J.run 0 (rRest K19_16) [(4, iv (errO (lineS ((wo.getD (i).toNat (⟨none, 0, 0, []⟩ : Ln)).gS_l) false bf))), (2, .slice none 0 0), (3, .pointer (some ⟨b1, 0, none⟩))] w15 (by kernel_rfl) ?_
      refine J.ret Tryd.f19 [.slice none 0 0, .agg #[iv (rlL ((wo.getD (i).toNat (⟨none, 0, 0, []⟩ : Ln)).gS_l) bf), iv (rlC ((wo.getD (i).toNat (⟨none, 0, 0, []⟩ : Ln)).gS_l) bf)], iv (errO (lineS ((wo.getD (i).toNat (⟨none, 0, 0, []⟩ : Ln)).gS_l) false bf))] Tryd.func19 ⟨by kernel_rfl, ⟨⟨b1, 0, none⟩, by kernel_rfl, ldV_run (S19.nth 3 rfl) (by kernel_rfl)⟩, by kernel_rfl, trivial⟩ ?_
      refine hR _ _ ?_
      have e_ : parF s = ⟨[], rlL ((wo.getD (i).toNat (⟨none, 0, 0, []⟩ : Ln)).gS_l) bf, rlC ((wo.getD (i).toNat (⟨none, 0, 0, []⟩ : Ln)).gS_l) bf, errO (lineS ((wo.getD (i).toNat (⟨none, 0, 0, []⟩ : Ln)).gS_l) false bf)⟩ := rp_bad hQ h0 (by omega) hbf (by omega) (by omega)
      exact ⟨none, 0, by rw [e_]; rfl, by rw [e_]; exact S19.nil.nilRow 27 5⟩
   ·skip
    refine J.head (.bool false) (congrArg Value.bool (decide_eq_false fk2)) ?_
    refine J.run 9 K19_17 [(55, .bool ((out.length : Int) == 0)), (6, .slice ra out.length rc), (3, .pointer (some ⟨b1, 0, none⟩))] w4 (by kernel_rfl) ?_
    by_cases fk5 : (out.length : Int) = 0
    ·skip
     refine J.head (.bool true) (congrArg Value.bool (beq_iff_eq.2 fk5)) ?_
     refine J.run 5 K19_18 [(2, .slice none 0 0), (56, .agg #[iv 0, iv 0]), (3, .pointer (some ⟨b1, 0, none⟩))] w4 (by kernel_rfl) ?_
     refine J.stBox S5 1 39 0 (.agg #[iv 0, iv 0]) [iv 0, iv 0] (rowOf drE ra rc 27 5 out :: box b1 [iv 0, iv 0] 39 :: rowOf lnE wa wc 71 1 wo :: tlF wo) (by kernel_rfl) rfl (by kernel_rfl) (by kernel_rfl) rfl ?_
     intro w16 S20
     refine J.run 2 K19_19 [(4, iv 4), (2, .slice none 0 0), (3, .pointer (some ⟨b1, 0, none⟩))] w16 (by kernel_rfl) ?_
     refine J.ret Tryd.f19 [.slice none 0 0, .agg #[iv 0, iv 0], iv 4] Tryd.func19 ⟨by kernel_rfl, ⟨⟨b1, 0, none⟩, by kernel_rfl, ldV_run (S20.nth 1 rfl) (by kernel_rfl)⟩, by kernel_rfl, trivial⟩ ?_
     refine hR _ _ ?_
     have e_ : parF s = ⟨[], 0, 0, 4⟩ := rp_end hQ (by omega) (by omega)
     exact ⟨none, 0, by rw [e_]; rfl, by rw [e_]; exact S20.nil.nilRow 27 5⟩
    ·skip
     refine J.head (.bool false) (congrArg Value.bool (beq_eq_false_iff_ne.2 fk5)) ?_
     refine J.run 7 K19_20 [(2, .slice ra out.length rc), (58, .agg #[iv 0, iv 0]), (3, .pointer (some ⟨b1, 0, none⟩))] w4 (by kernel_rfl) ?_
     refine J.stBox S5 1 39 0 (.agg #[iv 0, iv 0]) [iv 0, iv 0] (rowOf drE ra rc 27 5 out :: box b1 [iv 0, iv 0] 39 :: rowOf lnE wa wc 71 1 wo :: tlF wo) (by kernel_rfl) rfl (by kernel_rfl) (by kernel_rfl) rfl ?_
     intro w17 S21
     refine J.run 2 K19_21 [(4, iv 0), (2, .slice ra out.length rc), (3, .pointer (some ⟨b1, 0, none⟩))] w17 (by kernel_rfl) ?_
     refine J.ret Tryd.f19 [.slice ra out.length rc, .agg #[iv 0, iv 0], iv 0] Tryd.func19 ⟨by kernel_rfl, ⟨⟨b1, 0, none⟩, by kernel_rfl, ldV_run (S21.nth 1 rfl) (by kernel_rfl)⟩, by kernel_rfl, trivial⟩ ?_
     refine hR _ _ ?_
     have e_ : parF s = ⟨out, 0, 0, 0⟩ := rp_done hQ (by omega) (by omega)
     exact ⟨_, _, by rw [e_]; rfl, by rw [e_]; exact S21.pick 0 rfl⟩
  exact L19_1 _ none 0 ([]) (-1) 0 w3 (by omega) (by omega) (rfl) (rfl) (by unfold parF; rw [if_neg (by omega), hwo]; rfl) S4 rfl

end Go.Proofs.YthhdaackhfffiaaDoor

