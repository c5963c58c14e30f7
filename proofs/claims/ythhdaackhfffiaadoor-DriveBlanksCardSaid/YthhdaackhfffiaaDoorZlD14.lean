/- Walks of functions of this seat, printed by a program over the engine. Conditions: as each theorem says. -/
import Derived.Test.YthhdaackhfffiaaDoorZlD13
namespace Go.Proofs.YthhdaackhfffiaaDoor
open Go.Eng Go.RowKit
set_option linter.unusedSimpArgs false
set_option linter.unusedVariables false
theorem lines_step {ps : List (List UInt8)} {i : Int} {L : List Tk} (hL : L = lexW (beforeL 35 (ps.getD i.toNat [])) [] (i + 1) 1) (h0 : 0 ≤ i) (hi : i < (ps.length : Int)) : linesF (ps.drop i.toNat) (i + 1) = consL L (linesF (ps.drop (i + 1).toNat) (i + 1 + 1)) := by
  rw [List.drop_eq_getElem_cons (show i.toNat < ps.length by omega), linesF, show (i + 1).toNat = i.toNat + 1 by omega, hL, List.getD_eq_getElem?_getD, List.getElem?_eq_getElem (show i.toNat < ps.length by omega)]; rfl
theorem pars_step {s : ByteArray} {i : Int} {L : List Tk} {out : List Dr} (hQ : parF s = parG (linesF ((splitOn 10 (ls s)).drop i.toNat) (i + 1)) out) (hL : L = lexW (beforeL 35 ((splitOn 10 (ls s)).getD i.toNat [])) [] (i + 1) 1) (h0 : 0 ≤ i) (hi : i < ((splitOn 10 (ls s)).length : Int)) :
    parF s = parG (consL L (linesF ((splitOn 10 (ls s)).drop (i + 1).toNat) (i + 1 + 1))) out := by rw [hQ, lines_step hL h0 hi]
theorem par_skip {s : ByteArray} {L : List Tk} {X : List (List Tk)} {out : List Dr} (h : parF s = parG (consL L X) out) (hl : L.length = 0) : parF s = parG X out := by
  rw [h]; unfold consL; rw [if_pos (List.eq_nil_of_length_eq_zero hl)]
theorem par_line {s : ByteArray} {L : List Tk} {X : List (List Tk)} {out : List Dr} (h : parF s = parG (consL L X) out) (hl : ¬ L.length = 0) : parF s = match lineS L (fullD out) (bfD out) with
    | none => parG X (out ++ [lineV L])
    | some x => ⟨[], (L.getD x.2.toNat tk0).gPlace_Line, (L.getD x.2.toNat tk0).gPlace_Column, x.1⟩ := by
  rw [h]; unfold consL; rw [if_neg (fun e => hl (by rw [e]; rfl))]; rfl
theorem par_bad {s : ByteArray} {L : List Tk} {X : List (List Tk)} {out : List Dr} (h : parF s = parG (consL L X) out) (hl : ¬ L.length = 0) (he : errO (lineS L (fullD out) (bfD out)) ≠ 0) : parF s = ⟨[], (L.getD (idxO (lineS L (fullD out) (bfD out))).toNat tk0).gPlace_Line, (L.getD (idxO (lineS L (fullD out) (bfD out))).toNat tk0).gPlace_Column, errO (lineS L (fullD out) (bfD out))⟩ := by
  rw [par_line h hl]
  cases hs : lineS L (fullD out) (bfD out) with
  | none => rw [hs] at he; exact absurd rfl he
  | some x => rfl
theorem chk_err {L : List Tk} {st : Option (Int × Int)} {b : Bool} {e i : Int} (h : ∀ x, st = some x → x.1 ≠ 0 ∧ 0 ≤ x.2 ∧ x.2 < (L.length : Int)) (h2 : st = none → b = true → e ≠ 0 ∧ 0 ≤ i ∧ i < (L.length : Int)) : ∀ x, chk st b e i = some x → x.1 ≠ 0 ∧ 0 ≤ x.2 ∧ x.2 < (L.length : Int) := by
  intro x hx
  cases st with
  | some y => exact h x hx
  | none =>
    cases b with
    | false => cases hx
    | true => have := Option.some.inj hx; subst this; exact h2 rfl rfl
theorem need_err {L : List Tk} {st : Option (Int × Int)} {k : Nat} (hl : L.length ≠ 0) (h : ∀ x, st = some x → x.1 ≠ 0 ∧ 0 ≤ x.2 ∧ x.2 < (L.length : Int)) : ∀ x, needS L st k = some x → x.1 ≠ 0 ∧ 0 ≤ x.2 ∧ x.2 < (L.length : Int) :=
  chk_err h (fun _ _ => ⟨by decide, by omega, by omega⟩)
theorem need_lt {L : List Tk} {st : Option (Int × Int)} {k : Nat} (h : needS L st k = none) : k < L.length := by
  have := of_decide_eq_false (chk_none h).2; omega
theorem word_err {L : List Tk} {st : Option (Int × Int)} {k : Nat} {x : ByteArray} (hl : L.length ≠ 0) (h : ∀ x, st = some x → x.1 ≠ 0 ∧ 0 ≤ x.2 ∧ x.2 < (L.length : Int)) : ∀ y, wordS L st k x = some y → y.1 ≠ 0 ∧ 0 ≤ y.2 ∧ y.2 < (L.length : Int) :=
  chk_err (need_err hl h) (fun h _ => ⟨by decide, by omega, by have := need_lt h; omega⟩)
theorem num_err {L : List Tk} {st : Option (Int × Int)} {k : Nat} {lo hi : Int} (hl : L.length ≠ 0) (h : ∀ x, st = some x → x.1 ≠ 0 ∧ 0 ≤ x.2 ∧ x.2 < (L.length : Int)) : ∀ y, numS L st k lo hi = some y → y.1 ≠ 0 ∧ 0 ≤ y.2 ∧ y.2 < (L.length : Int) :=
  chk_err (chk_err (need_err hl h) (fun h _ => ⟨by decide, by omega, by have := need_lt h; omega⟩)) (fun h _ => ⟨by decide, by omega, by have := need_lt (chk_none h).1; omega⟩)
theorem line_err {L : List Tk} (full : Bool) (bf : Int) (hl : L.length ≠ 0) : ∀ y, lineS L full bf = some y → y.1 ≠ 0 ∧ 0 ≤ y.2 ∧ y.2 < (L.length : Int) := by
  have h1 : ∀ y, ls1 L full = some y → y.1 ≠ 0 ∧ 0 ≤ y.2 ∧ y.2 < (L.length : Int) := chk_err (chk_err (need_err hl (fun x h => by cases h)) (fun h _ => ⟨by decide, by omega, by omega⟩)) (fun h _ => ⟨by decide, by omega, by omega⟩)
  have h2 : ∀ y, ls2 L full = some y → y.1 ≠ 0 ∧ 0 ≤ y.2 ∧ y.2 < (L.length : Int) := num_err hl h1
  have h3 : ∀ y, ls3 L full bf = some y → y.1 ≠ 0 ∧ 0 ≤ y.2 ∧ y.2 < (L.length : Int) := chk_err h2 (fun h _ => ⟨by decide, by omega, by have := (num_none h).1; omega⟩)
  have h5 : ∀ y, ls5 L full bf = some y → y.1 ≠ 0 ∧ 0 ≤ y.2 ∧ y.2 < (L.length : Int) := num_err hl (word_err hl h3)
  have h7 : ∀ y, ls7 L full bf = some y → y.1 ≠ 0 ∧ 0 ≤ y.2 ∧ y.2 < (L.length : Int) := num_err hl (word_err hl h5)
  have h9 : ∀ y, ls9 L full bf = some y → y.1 ≠ 0 ∧ 0 ≤ y.2 ∧ y.2 < (L.length : Int) := num_err hl (word_err hl h7)
  have h11 : ∀ y, ls11 L full bf = some y → y.1 ≠ 0 ∧ 0 ≤ y.2 ∧ y.2 < (L.length : Int) := num_err hl (word_err hl h9)
  exact chk_err h11 (fun _ h => ⟨by decide, by omega, by have := of_decide_eq_true h; omega⟩)
theorem idx_ok {L : List Tk} {full : Bool} {bf : Int} (hl : L.length ≠ 0) : 0 ≤ idxO (lineS L full bf) ∧ idxO (lineS L full bf) < (L.length : Int) := by
  cases hs : lineS L full bf with
  | none => exact ⟨Int.le_refl 0, by show (0 : Int) < _; omega⟩
  | some x => exact (line_err full bf hl x hs).2
theorem par_ok {s : ByteArray} {L : List Tk} {X : List (List Tk)} {out : List Dr} (h : parF s = parG (consL L X) out) (hl : ¬ L.length = 0) (he : errO (lineS L (fullD out) (bfD out)) = 0) : lineS L (fullD out) (bfD out) = none ∧ parF s = parG X (out ++ [lineV L]) := by
  have h1 := par_line h hl
  cases hs : lineS L (fullD out) (bfD out) with
  | none => rw [hs] at h1; exact ⟨rfl, h1⟩
  | some x => rw [hs] at he; exact absurd he (line_err _ _ hl x hs).1
theorem last_ok {out : List Dr} {d : Dr} (h : 0 ≤ d.gAt) : (out ++ [d]).length ≠ 0 → 0 ≤ ((out ++ [d]).getD (((out ++ [d]).length : Int) - 1).toNat dr0).gAt := by
  intro _
  rw [show (((out ++ [d]).length : Int) - 1).toNat = out.length by rw [List.length_append, List.length_singleton]; omega, List.getD_eq_getElem?_getD, List.getElem?_append_right (Nat.le_refl _), Nat.sub_self]; exact h
theorem par_end {s : ByteArray} {i : Int} {out : List Dr} (hQ : parF s = parG (linesF ((splitOn 10 (ls s)).drop i.toNat) (i + 1)) out) (hi : ((splitOn 10 (ls s)).length : Int) ≤ i) (ho : out.length = 0) : parF s = ⟨[], 0, 0, 4⟩ := by
  rw [hQ, List.drop_eq_nil_of_le (by omega)]; show (if out.length = 0 then _ else _) = _; rw [if_pos ho]
theorem par_done {s : ByteArray} {i : Int} {out : List Dr} (hQ : parF s = parG (linesF ((splitOn 10 (ls s)).drop i.toNat) (i + 1)) out) (hi : ((splitOn 10 (ls s)).length : Int) ≤ i) (ho : ¬ out.length = 0) : parF s = ⟨out, 0, 0, 0⟩ := by
  rw [hQ, List.drop_eq_nil_of_le (by omega)]; show (if out.length = 0 then _ else _) = _; rw [if_neg ho]

theorem hb18 : HasBody Tryd.prog 18 := fun _ _ => by kernel_rfl
noncomputable def K18_0 : List Item := adv 3 [] (bodyOf Tryd.f18)
noncomputable def K18_1 : List Item := adv 9 [] (popK K18_0)
noncomputable def K18_2 : List Item := adv 5 [true] K18_1
noncomputable def K18_3 : List Item := adv 2 [] (popK K18_2)
noncomputable def K18_4 : List Item := adv 10 [false] K18_1
noncomputable def K18_5 : List Item := adv 5 [] (popK K18_4)
noncomputable def K18_6 : List Item := adv 5 [] K18_5
noncomputable def K18_7 : List Item := adv 7 [true] K18_6
noncomputable def K18_8 : List Item := adv 2 [] (popK (popK K18_7))
noncomputable def K18_9 : List Item := adv 6 [] K18_8
noncomputable def K18_10 : List Item := adv 9 [] (popK K18_9)
noncomputable def K18_11 : List Item := adv 4 [true] K18_10
noncomputable def K18_12 : List Item := adv 6 [false] K18_10
noncomputable def K18_13 : List Item := adv 6 [] (popK K18_12)
noncomputable def K18_14 : List Item := adv 7 [] (popK (popK (popK K18_13)))
noncomputable def K18_15 : List Item := adv 2 [] (popK K18_14)
noncomputable def K18_16 : List Item := adv 4 [false] K18_15
noncomputable def K18_17 : List Item := adv 5 [] (popK (popK (popK K18_16)))
noncomputable def K18_18 : List Item := adv 2 [true] K18_15
noncomputable def K18_19 : List Item := adv 9 [false] K18_6
noncomputable def K18_20 : List Item := adv 5 [true] K18_19
noncomputable def K18_21 : List Item := adv 2 [] (popK K18_20)
noncomputable def K18_22 : List Item := adv 7 [false] K18_19
noncomputable def K18_23 : List Item := adv 2 [] (popK K18_22)
set_option maxRecDepth 20000 in
set_option maxHeartbeats 20000000 in
theorem parse_any (s : ByteArray) (w : World) (hs : s.size ≤ 9223372036854775807) (hW : TabW w) : Ret Tryd.prog 18 #[.string s] w (fun v w' => ∃ a cap, v = .tuple #[.slice a (parF s).l.length cap, .agg #[iv (parF s).pl, iv (parF s).pc], iv (parF s).e] ∧ Sep w [rowOf drE a cap 27 5 (parF s).l] w') := by
 have S0 := Sep.refl w
 refine Ret.named fun R hR => ?_
 refine Ret.of_J (N := 64) [(0, .string s)] Tryd.func18 rfl rfl (Nat.le_of_ble_eq_true (by kernel_rfl)) (by kernel_rfl) ?_
 have hW0 := hW
 refine J.run 3 K18_0 [(0, .string s)] w (by kernel_rfl) ?_
 refine J.new S0 3 [iv 0, iv 0] 39 (by kernel_rfl) ?_
 intro b1 w1 S1
 refine J.run 9 K18_1 [(13, .bool (decide ((s.size : Int) > 16384))), (3, .pointer (some ⟨b1, 0, none⟩)), (0, .string s)] w1 (by kernel_rfl) ?_
 by_cases fk1 : (s.size : Int) > 16384
 ·skip
  refine J.head (.bool true) (congrArg Value.bool (decide_eq_true fk1)) ?_
  refine J.run 5 K18_2 [(2, .slice none 0 0), (14, .agg #[iv 0, iv 0]), (3, .pointer (some ⟨b1, 0, none⟩))] w1 (by kernel_rfl) ?_
  refine J.stBox S1 0 39 0 (.agg #[iv 0, iv 0]) [iv 0, iv 0] [box b1 [iv 0, iv 0] 39] (by kernel_rfl) rfl (by kernel_rfl) (by kernel_rfl) rfl ?_
  intro w2 S2
  refine J.run 2 K18_3 [(4, iv 5), (2, .slice none 0 0), (3, .pointer (some ⟨b1, 0, none⟩))] w2 (by kernel_rfl) ?_
  refine J.ret Tryd.f18 [.slice none 0 0, .agg #[iv 0, iv 0], iv 5] Tryd.func18 ⟨by kernel_rfl, ⟨⟨b1, 0, none⟩, by kernel_rfl, ldV_run (S2.nth 0 rfl) (by kernel_rfl)⟩, by kernel_rfl, trivial⟩ ?_
  refine hR _ _ ?_
  have e_ : parF s = ⟨[], 0, 0, 5⟩ := by unfold parF; rw [if_pos (by omega)]
  exact ⟨none, 0, by rw [e_]; rfl, by rw [e_]; exact S2.nil.nilRow 27 5⟩
 ·skip
  refine J.head (.bool false) (congrArg Value.bool (decide_eq_false fk1)) ?_
  refine J.run 10 K18_4 [(15, .string s), (5, .slice none 0 0), (3, .pointer (some ⟨b1, 0, none⟩))] w1 (by kernel_rfl) ?_
  refine J.callF 16 34 #[.string s, .string ⟨#[10]⟩] hb34 (by kernel_rfl) (split10_any s _ (by omega) (tabW_sep hW S1)) ?_
  rintro _ w3 ⟨b2, rfl, T1⟩
  have S3 : Sep w [box b2 ((piecesB 10 s).map Value.string) 9, box b1 [iv 0, iv 0] 39] w3 := S1.trans T1
  clear T1
  have := splitOn_bound 10 (ls s); have := pieces_len 10 s; have := ls_length s
  refine J.run 5 K18_5 [(18, iv 0), (17, iv ((piecesB 10 s).length : Int)), (16, .slice (some ⟨b2, 0, none⟩) ((piecesB 10 s).length) ((piecesB 10 s).length)), (5, .slice none 0 0), (3, .pointer (some ⟨b1, 0, none⟩))] w3 (by kernel_rfl) ?_
  have S4 : Sep w [rowOf drE none 0 27 5 ([]), box b2 ((piecesB 10 s).map Value.string) 9, box b1 [iv 0, iv 0] 39] w3 := S3.nilRow 27 5
  have L18_1 : ∀ (mm_ : Nat) (ra : Option Addr) (rc : Nat) (out : List Dr) (i : Int) (w4 : World), (0 ≤ i) → (i ≤ ((piecesB 10 s).length : Int)) → (((out).length : Int) ≤ i) → ((out).length ≠ 0 → 0 ≤ ((out).getD (((out).length : Int) - 1).toNat dr0).gAt) → (parF s = parG (linesF ((splitOn 10 (ls s)).drop (i).toNat) (i + 1)) out) → Sep w [rowOf drE ra rc 27 5 out, box b2 ((piecesB 10 s).map Value.string) 9, box b1 [iv 0, iv 0] 39] w4 → (((piecesB 10 s).length : Int) - i).toNat = mm_ → J Tryd.prog 18 64 R K18_5 [(18, iv i), (17, iv ((piecesB 10 s).length : Int)), (16, .slice (some ⟨b2, 0, none⟩) ((piecesB 10 s).length) ((piecesB 10 s).length)), (5, .slice ra out.length rc), (3, .pointer (some ⟨b1, 0, none⟩))] w4 := by
   intro mm1
   induction mm1 using Nat.strongRecOn with
   | _ mm1 ih1 =>
   intro ra rc out i w4 h0 h1 hol hac hQ S5 hm1
   refine J.run 5 K18_6 [(19, .bool (decide (i < ((piecesB 10 s).length : Int)))), (18, iv i), (17, iv ((piecesB 10 s).length : Int)), (16, .slice (some ⟨b2, 0, none⟩) ((piecesB 10 s).length) ((piecesB 10 s).length)), (5, .slice ra out.length rc), (3, .pointer (some ⟨b1, 0, none⟩))] w4 (by kernel_rfl) ?_
   by_cases fk2 : i < ((piecesB 10 s).length : Int)
   ·skip
    refine J.head (.bool true) (congrArg Value.bool (decide_eq_true fk2)) ?_
    refine J.run 7 K18_7 [(20, iv i), (18, iv i), (17, iv ((piecesB 10 s).length : Int)), (16, .slice (some ⟨b2, 0, none⟩) ((piecesB 10 s).length) ((piecesB 10 s).length)), (5, .slice ra out.length rc), (3, .pointer (some ⟨b1, 0, none⟩))] w4 (by kernel_rfl) ?_
    obtain ⟨p1, hp1, hc1⟩ := (box_ones (S5.nth 1 rfl) ((piecesB 10 s).length) rfl).at ByteArray.empty (i).toNat (by omega)
    refine J.ok (OK.index 21 69 1 (some ⟨b2, 0, none⟩) p1 ((piecesB 10 s).length) (i).toNat i (p1.add (i).toNat) (by kernel_rfl) (by kernel_rfl) hp1 (by omega) (by omega) (by rw [Nat.mul_one])) ?_
    refine J.ok (OK.ldCell 22 9 (p1.add (i).toNat) (.string ((piecesB 10 s).getD (i).toNat ByteArray.empty)) (by kernel_rfl) (by kernel_rfl) hc1) ?_
    refine J.run 2 K18_8 [(7, .string ((piecesB 10 s).getD (i).toNat ByteArray.empty)), (6, iv i), (18, iv i), (17, iv ((piecesB 10 s).length : Int)), (16, .slice (some ⟨b2, 0, none⟩) ((piecesB 10 s).length) ((piecesB 10 s).length)), (5, .slice ra out.length rc), (3, .pointer (some ⟨b1, 0, none⟩))] w4 (by kernel_rfl) ?_
    obtain ⟨x, hx⟩ : ∃ x : ByteArray, x = (piecesB 10 s).getD (i).toNat ByteArray.empty := ⟨_, rfl⟩
    refine J.head (.string x) (congrArg Value.string hx.symm) ?_
    have hx1 : ls x = (splitOn 10 (ls s)).getD i.toNat [] := by rw [hx]; exact piecesB_getD 10 s i.toNat (by omega)
    have hxs : x.size ≤ s.size := by rw [hx]; exact piece_size 10 s i.toNat
    refine J.run 6 K18_9 [(25, iv (IntKind.wrap .i64 (i + 1))), (23, .string x), (18, iv i), (17, iv ((piecesB 10 s).length : Int)), (16, .slice (some ⟨b2, 0, none⟩) ((piecesB 10 s).length) ((piecesB 10 s).length)), (5, .slice ra out.length rc), (3, .pointer (some ⟨b1, 0, none⟩))] w4 (by kernel_rfl) ?_
    refine J.head (iv (i + 1)) (congrArg (Value.int .i64) (IntWalk.i64_in _ (by omega))) ?_
    refine J.callF 26 35 #[.string x, iv (i + 1)] hb35 (by kernel_rfl) (lex_any x (i + 1) _ (by omega) (by omega) (tabW_sep hW S5)) ?_
    rintro _ w5 ⟨ra1, rc1, rfl, T2⟩
    have S6 : Sep w [rowOf tkE ra1 rc1 78 4 (lexW (beforeL 35 (ls x)) [] (i + 1) 1), rowOf drE ra rc 27 5 out, box b2 ((piecesB 10 s).map Value.string) 9, box b1 [iv 0, iv 0] 39] w5 := S5.trans T2
    clear T2 S5
    have hts : ∀ k, ((lexW (beforeL 35 (ls x)) [] (i + 1) 1).getD k tk0).gText.size ≤ 1000000 := fun k => lexW_getD _ _ _ 1000000 (by have h1_ := before_len 35 (ls x); have h2_ := ls_length x; omega) k
    have hwl : (lexW (beforeL 35 (ls x)) [] (i + 1) 1).length ≤ 1000000 := by have h1_ := before_len 35 (ls x); have h2_ := ls_length x; have h3_ := lexW_len (beforeL 35 (ls x)) [] (i + 1) 1; rw [if_pos rfl] at h3_; omega
    have hst := pars_step (L := (lexW (beforeL 35 (ls x)) [] (i + 1) 1)) hQ (by rw [← hx1]) h0 (by omega)
    refine J.run 9 K18_10 [(29, .bool (((lexW (beforeL 35 (ls x)) [] (i + 1) 1).length : Int) == 0)), (8, .slice ra1 ((lexW (beforeL 35 (ls x)) [] (i + 1) 1).length) rc1), (18, iv i), (17, iv ((piecesB 10 s).length : Int)), (16, .slice (some ⟨b2, 0, none⟩) ((piecesB 10 s).length) ((piecesB 10 s).length)), (5, .slice ra out.length rc), (3, .pointer (some ⟨b1, 0, none⟩))] w5 (by kernel_rfl) ?_
    by_cases fk3 : ((lexW (beforeL 35 (ls x)) [] (i + 1) 1).length : Int) = 0
    ·skip
     refine J.head (.bool true) (congrArg Value.bool (beq_iff_eq.2 fk3)) ?_
     refine J.run 4 K18_11 [(57, iv (IntKind.wrap .i64 (i + 1))), (17, iv ((piecesB 10 s).length : Int)), (16, .slice (some ⟨b2, 0, none⟩) ((piecesB 10 s).length) ((piecesB 10 s).length)), (5, .slice ra out.length rc), (3, .pointer (some ⟨b1, 0, none⟩))] w5 (by kernel_rfl) ?_
     refine J.head (iv (i + 1)) (congrArg (Value.int .i64) (IntWalk.i64_in _ (by omega))) ?_
     refine J.run 3 K18_5 [(18, iv (i + 1)), (17, iv ((piecesB 10 s).length : Int)), (16, .slice (some ⟨b2, 0, none⟩) ((piecesB 10 s).length) ((piecesB 10 s).length)), (5, .slice ra out.length rc), (3, .pointer (some ⟨b1, 0, none⟩))] w5 (by kernel_rfl) ?_
     have S7 : Sep w [rowOf drE ra rc 27 5 out, box b2 ((piecesB 10 s).map Value.string) 9, box b1 [iv 0, iv 0] 39] w5 := S6.erase 0
     clear S6
     refine J.run 0 K18_5 [(18, iv (i + 1)), (17, iv ((piecesB 10 s).length : Int)), (16, .slice (some ⟨b2, 0, none⟩) ((piecesB 10 s).length) ((piecesB 10 s).length)), (5, .slice ra out.length rc), (3, .pointer (some ⟨b1, 0, none⟩))] w5 (by kernel_rfl) ?_
     exact ih1 _ (show (((piecesB 10 s).length : Int) - (i + 1)).toNat < mm1 from by omega) ra rc out (i + 1) w5 (by omega) (by omega) (by (try rw [List.length_append, List.length_singleton]); omega) (hac) (par_skip hst (by omega)) S7 rfl
    ·skip
     refine J.head (.bool false) (congrArg Value.bool (beq_eq_false_iff_ne.2 fk3)) ?_
     refine J.run 6 K18_12 [(31, .agg #[.slice ra1 ((lexW (beforeL 35 (ls x)) [] (i + 1) 1).length) rc1, iv 0, iv 0, iv 0]), (8, .slice ra1 ((lexW (beforeL 35 (ls x)) [] (i + 1) 1).length) rc1), (18, iv i), (17, iv ((piecesB 10 s).length : Int)), (16, .slice (some ⟨b2, 0, none⟩) ((piecesB 10 s).length) ((piecesB 10 s).length)), (5, .slice ra out.length rc), (3, .pointer (some ⟨b1, 0, none⟩))] w5 (by kernel_rfl) ?_
     refine J.new S6 32 [.slice ra1 ((lexW (beforeL 35 (ls x)) [] (i + 1) 1).length) rc1, iv 0, iv 0, iv 0] 75 (by kernel_rfl) ?_
     intro b3 w6 S8
     refine J.run 6 K18_13 [(34, .slice ra out.length rc), (33, .pointer (some ⟨b3, 0, none⟩)), (9, .pointer (some ⟨b3, 0, none⟩)), (8, .slice ra1 ((lexW (beforeL 35 (ls x)) [] (i + 1) 1).length) rc1), (18, iv i), (17, iv ((piecesB 10 s).length : Int)), (16, .slice (some ⟨b2, 0, none⟩) ((piecesB 10 s).length) ((piecesB 10 s).length)), (5, .slice ra out.length rc), (3, .pointer (some ⟨b1, 0, none⟩))] w6 (by kernel_rfl) ?_
     refine J.callF 35 36 #[.pointer (some ⟨b3, 0, none⟩), .slice ra out.length rc] hb36 (by kernel_rfl) (line_any b3 ra1 rc1 (lexW (beforeL 35 (ls x)) [] (i + 1) 1) ra rc out _ _ _ S8 (by omega) hts (by omega) hac hW0) ?_
     rintro _ w7 ⟨pa1, pd1, rfl, hpd1, S9⟩
     replace S9 : Sep w [box b3 [.slice ra1 ((lexW (beforeL 35 (ls x)) [] (i + 1) 1).length) rc1, iv (errO (lineS (lexW (beforeL 35 (ls x)) [] (i + 1) 1) (fullD out) (bfD out))), iv pa1, iv (idxO (lineS (lexW (beforeL 35 (ls x)) [] (i + 1) 1) (fullD out) (bfD out)))] 75, rowOf tkE ra1 rc1 78 4 (lexW (beforeL 35 (ls x)) [] (i + 1) 1), rowOf drE ra rc 27 5 out, box b2 ((piecesB 10 s).map Value.string) 9, box b1 [iv 0, iv 0] 39] w7 := S9
     clear S8
     have hix := idx_ok (full := fullD out) (bf := bfD out) (show (lexW (beforeL 35 (ls x)) [] (i + 1) 1).length ≠ 0 by omega)
     refine J.new S9 10 [iv 0, iv 0, iv 0, iv 0, iv 0] 27 (by kernel_rfl) ?_
     intro b4 w8 S10
     refine J.stBox S10 0 27 0 (.agg #[iv pd1.gAt, iv pd1.gPedal, iv pd1.gBrake, iv pd1.gGear, iv pd1.gLoad]) [iv pd1.gAt, iv pd1.gPedal, iv pd1.gBrake, iv pd1.gGear, iv pd1.gLoad] [box b4 [iv pd1.gAt, iv pd1.gPedal, iv pd1.gBrake, iv pd1.gGear, iv pd1.gLoad] 27, box b3 [.slice ra1 ((lexW (beforeL 35 (ls x)) [] (i + 1) 1).length) rc1, iv (errO (lineS (lexW (beforeL 35 (ls x)) [] (i + 1) 1) (fullD out) (bfD out))), iv pa1, iv (idxO (lineS (lexW (beforeL 35 (ls x)) [] (i + 1) 1) (fullD out) (bfD out)))] 75, rowOf tkE ra1 rc1 78 4 (lexW (beforeL 35 (ls x)) [] (i + 1) 1), rowOf drE ra rc 27 5 out, box b2 ((piecesB 10 s).map Value.string) 9, box b1 [iv 0, iv 0] 39] (by kernel_rfl) rfl (by kernel_rfl) (by kernel_rfl) rfl ?_
     intro w9 S11
     refine J.run 7 K18_14 [(38, .pointer (some ⟨b3, 1, none⟩)), (10, .pointer (some ⟨b4, 0, none⟩)), (9, .pointer (some ⟨b3, 0, none⟩)), (8, .slice ra1 ((lexW (beforeL 35 (ls x)) [] (i + 1) 1).length) rc1), (18, iv i), (17, iv ((piecesB 10 s).length : Int)), (16, .slice (some ⟨b2, 0, none⟩) ((piecesB 10 s).length) ((piecesB 10 s).length)), (5, .slice ra out.length rc), (3, .pointer (some ⟨b1, 0, none⟩))] w9 (by kernel_rfl) ?_
     refine J.ok (OK.ldBox S11 1 39 28 1 (iv (errO (lineS (lexW (beforeL 35 (ls x)) [] (i + 1) 1) (fullD out) (bfD out)))) (by kernel_rfl) rfl (by kernel_rfl)) ?_
     refine J.run 2 K18_15 [(40, .bool ((errO (lineS (lexW (beforeL 35 (ls x)) [] (i + 1) 1) (fullD out) (bfD out))) != 0)), (10, .pointer (some ⟨b4, 0, none⟩)), (9, .pointer (some ⟨b3, 0, none⟩)), (8, .slice ra1 ((lexW (beforeL 35 (ls x)) [] (i + 1) 1).length) rc1), (18, iv i), (17, iv ((piecesB 10 s).length : Int)), (16, .slice (some ⟨b2, 0, none⟩) ((piecesB 10 s).length) ((piecesB 10 s).length)), (5, .slice ra out.length rc), (3, .pointer (some ⟨b1, 0, none⟩))] w9 (by kernel_rfl) ?_
     by_cases fk4 : (errO (lineS (lexW (beforeL 35 (ls x)) [] (i + 1) 1) (fullD out) (bfD out))) = 0
     ·skip
      refine J.head (.bool false) (congrArg Value.bool (bne_eq_false_iff_eq.2 fk4)) ?_
      refine J.run 4 K18_16 [(53, .slice ra out.length rc), (10, .pointer (some ⟨b4, 0, none⟩)), (18, iv i), (17, iv ((piecesB 10 s).length : Int)), (16, .slice (some ⟨b2, 0, none⟩) ((piecesB 10 s).length) ((piecesB 10 s).length)), (3, .pointer (some ⟨b1, 0, none⟩))] w9 (by kernel_rfl) ?_
      refine J.ok (OK.ldBox S11 0 54 27 0 (.agg #[iv pd1.gAt, iv pd1.gPedal, iv pd1.gBrake, iv pd1.gGear, iv pd1.gLoad]) (by kernel_rfl) rfl (by kernel_rfl)) ?_
      refine J.newSlice S11 55 1 [iv pd1.gAt, iv pd1.gPedal, iv pd1.gBrake, iv pd1.gGear, iv pd1.gLoad] 27 (by kernel_rfl) ?_
      intro b5 w10 S12
      refine J.append drE S12 4 out (⟨pd1.gAt, pd1.gPedal, pd1.gBrake, pd1.gGear, pd1.gLoad⟩ : Dr) 56 22 (.agg #[iv 0, iv 0, iv 0, iv 0, iv 0]) 40 ⟨b5, 0, none⟩ 1 rfl (by kernel_rfl) (by kernel_rfl) (by kernel_rfl) (by kernel_rfl) (by decide) (box_cells (S12.nth 0 rfl)) (by kernel_rfl) (by kernel_rfl) (⟨by omega, by omega⟩) ?_
      intro ra2 rc2 w11 S13
      replace S13 : Sep w [box b5 [iv pd1.gAt, iv pd1.gPedal, iv pd1.gBrake, iv pd1.gGear, iv pd1.gLoad] 27, box b4 [iv pd1.gAt, iv pd1.gPedal, iv pd1.gBrake, iv pd1.gGear, iv pd1.gLoad] 27, box b3 [.slice ra1 ((lexW (beforeL 35 (ls x)) [] (i + 1) 1).length) rc1, iv (errO (lineS (lexW (beforeL 35 (ls x)) [] (i + 1) 1) (fullD out) (bfD out))), iv pa1, iv (idxO (lineS (lexW (beforeL 35 (ls x)) [] (i + 1) 1) (fullD out) (bfD out)))] 75, rowOf tkE ra1 rc1 78 4 (lexW (beforeL 35 (ls x)) [] (i + 1) 1), rowOf drE ra2 rc2 27 5 (out ++ [(⟨pd1.gAt, pd1.gPedal, pd1.gBrake, pd1.gGear, pd1.gLoad⟩ : Dr)]), box b2 ((piecesB 10 s).map Value.string) 9, box b1 [iv 0, iv 0] 39] w11 := S13
      have S14 : Sep w [box b4 [iv pd1.gAt, iv pd1.gPedal, iv pd1.gBrake, iv pd1.gGear, iv pd1.gLoad] 27, box b3 [.slice ra1 ((lexW (beforeL 35 (ls x)) [] (i + 1) 1).length) rc1, iv (errO (lineS (lexW (beforeL 35 (ls x)) [] (i + 1) 1) (fullD out) (bfD out))), iv pa1, iv (idxO (lineS (lexW (beforeL 35 (ls x)) [] (i + 1) 1) (fullD out) (bfD out)))] 75, rowOf tkE ra1 rc1 78 4 (lexW (beforeL 35 (ls x)) [] (i + 1) 1), rowOf drE ra2 rc2 27 5 (out ++ [(⟨pd1.gAt, pd1.gPedal, pd1.gBrake, pd1.gGear, pd1.gLoad⟩ : Dr)]), box b2 ((piecesB 10 s).map Value.string) 9, box b1 [iv 0, iv 0] 39] w11 := S13.erase 0
      clear S13
      refine J.run 5 K18_17 [(57, iv (IntKind.wrap .i64 (i + 1))), (5, .slice ra2 ((out ++ [(⟨pd1.gAt, pd1.gPedal, pd1.gBrake, pd1.gGear, pd1.gLoad⟩ : Dr)]).length) rc2), (17, iv ((piecesB 10 s).length : Int)), (16, .slice (some ⟨b2, 0, none⟩) ((piecesB 10 s).length) ((piecesB 10 s).length)), (3, .pointer (some ⟨b1, 0, none⟩))] w11 (by kernel_rfl) ?_
      refine J.head (iv (i + 1)) (congrArg (Value.int .i64) (IntWalk.i64_in _ (by omega))) ?_
      refine J.run 3 K18_5 [(18, iv (i + 1)), (5, .slice ra2 ((out ++ [(⟨pd1.gAt, pd1.gPedal, pd1.gBrake, pd1.gGear, pd1.gLoad⟩ : Dr)]).length) rc2), (17, iv ((piecesB 10 s).length : Int)), (16, .slice (some ⟨b2, 0, none⟩) ((piecesB 10 s).length) ((piecesB 10 s).length)), (3, .pointer (some ⟨b1, 0, none⟩))] w11 (by kernel_rfl) ?_
      have S15 : Sep w [box b4 [iv pd1.gAt, iv pd1.gPedal, iv pd1.gBrake, iv pd1.gGear, iv pd1.gLoad] 27, box b3 [.slice ra1 ((lexW (beforeL 35 (ls x)) [] (i + 1) 1).length) rc1, iv (errO (lineS (lexW (beforeL 35 (ls x)) [] (i + 1) 1) (fullD out) (bfD out))), iv pa1, iv (idxO (lineS (lexW (beforeL 35 (ls x)) [] (i + 1) 1) (fullD out) (bfD out)))] 75, rowOf drE ra2 rc2 27 5 (out ++ [(⟨pd1.gAt, pd1.gPedal, pd1.gBrake, pd1.gGear, pd1.gLoad⟩ : Dr)]), box b2 ((piecesB 10 s).map Value.string) 9, box b1 [iv 0, iv 0] 39] w11 := S14.erase 2
      clear S14
      have S16 : Sep w [box b4 [iv pd1.gAt, iv pd1.gPedal, iv pd1.gBrake, iv pd1.gGear, iv pd1.gLoad] 27, rowOf drE ra2 rc2 27 5 (out ++ [(⟨pd1.gAt, pd1.gPedal, pd1.gBrake, pd1.gGear, pd1.gLoad⟩ : Dr)]), box b2 ((piecesB 10 s).map Value.string) 9, box b1 [iv 0, iv 0] 39] w11 := S15.erase 1
      clear S15
      have S17 : Sep w [rowOf drE ra2 rc2 27 5 (out ++ [(⟨pd1.gAt, pd1.gPedal, pd1.gBrake, pd1.gGear, pd1.gLoad⟩ : Dr)]), box b2 ((piecesB 10 s).map Value.string) 9, box b1 [iv 0, iv 0] 39] w11 := S16.erase 0
      clear S16
      refine J.run 0 K18_5 [(18, iv (i + 1)), (17, iv ((piecesB 10 s).length : Int)), (16, .slice (some ⟨b2, 0, none⟩) ((piecesB 10 s).length) ((piecesB 10 s).length)), (5, .slice ra2 ((out ++ [(⟨pd1.gAt, pd1.gPedal, pd1.gBrake, pd1.gGear, pd1.gLoad⟩ : Dr)]).length) rc2), (3, .pointer (some ⟨b1, 0, none⟩))] w11 (by kernel_rfl) ?_
      exact ih1 _ (show (((piecesB 10 s).length : Int) - (i + 1)).toNat < mm1 from by omega) ra2 rc2 (out ++ [(⟨pd1.gAt, pd1.gPedal, pd1.gBrake, pd1.gGear, pd1.gLoad⟩ : Dr)]) (i + 1) w11 (by omega) (by omega) (by (try rw [List.length_append, List.length_singleton]); omega) (last_ok (by rw [hpd1 (par_ok hst (by omega) (by omega)).1]; exact (good_iff.1 (line_good (par_ok hst (by omega) (by omega)).1).1).1.1)) (by have h_ := par_ok hst (by omega) (by omega); rw [← hpd1 h_.1] at h_; exact h_.2) S17 rfl
     ·skip
      refine J.head (.bool true) (congrArg Value.bool (bne_iff_ne.2 fk4)) ?_
      refine J.run 2 K18_18 [(9, .pointer (some ⟨b3, 0, none⟩)), (8, .slice ra1 ((lexW (beforeL 35 (ls x)) [] (i + 1) 1).length) rc1), (3, .pointer (some ⟨b1, 0, none⟩))] w9 (by kernel_rfl) ?_
      obtain ⟨p2, hp2, hc2⟩ := (rowOf_recs (S11.nth 2 rfl) _ rfl (fun _ => rfl) (by decide)).at tk0 (idxO (lineS (lexW (beforeL 35 (ls x)) [] (i + 1) 1) (fullD out) (bfD out))).toNat (by omega)
      refine J.drawPlan (fun w_ => Sep w [box b4 [iv pd1.gAt, iv pd1.gPedal, iv pd1.gBrake, iv pd1.gGear, iv pd1.gLoad] 27, box b3 [.slice ra1 ((lexW (beforeL 35 (ls x)) [] (i + 1) 1).length) rc1, iv (errO (lineS (lexW (beforeL 35 (ls x)) [] (i + 1) 1) (fullD out) (bfD out))), iv pa1, iv (idxO (lineS (lexW (beforeL 35 (ls x)) [] (i + 1) 1) (fullD out) (bfD out)))] 75, rowOf tkE ra1 rc1 78 4 (lexW (beforeL 35 (ls x)) [] (i + 1) 1), rowOf drE ra rc 27 5 out, box b2 ((piecesB 10 s).map Value.string) 9] w_) [(0, true), (1, true), (2, true), (3, true), (4, true), (5, true), (6, true), (8, true), (9, true), (10, true), (11, true), (12, true), (7, false), (13, false), (14, true)] S11 Tryd.mixed (by kernel_rfl) (planOK_of (T := [(0, some 41, 256), (0, some 42, 512), (2, some 43, 4398046511104), (4, some 44, 8796093022208), (8, some 45, 17592186044416), (17, some 46, 37383395344384), (32, some 47, 70368744177664), (64, some 48, 140737488355328), (0, some 49, 512), (256, some 50, 562949953421312), (512, some 51, 1125899906842624), (1024, some 52, 2251799813685248), (0, some 2, 0), (4351, none, 281474976710664), (16383, some 4, 4503599627370496)]) (by kernel_rfl) (by kernel_rfl)) ?_
      intro w12 S18
      refine PB.mk (S18.erase 5) ?_
      refine PL.take 0 41 (.slice ra1 ((lexW (beforeL 35 (ls x)) [] (i + 1) 1).length) rc1) (fun _ _ => by kernel_rfl) ?_
      refine PL.take 1 42 (.pointer (some ⟨b3, 0, none⟩)) (fun _ _ => by kernel_rfl) ?_
      refine PL.take 2 43 (.pointer (some ⟨b3, 0, none⟩)) (fun _ _ => by kernel_rfl) ?_
      refine PL.take 3 44 (.pointer (some ⟨b3, 3, none⟩)) (fun _ _ => by kernel_rfl) ?_
      refine PL.takeOK 4 (fun w_ S_ => OK.ldBox S_ 1 45 3 3 (iv (idxO (lineS (lexW (beforeL 35 (ls x)) [] (i + 1) 1) (fullD out) (bfD out)))) (by kernel_rfl) rfl (by kernel_rfl)) rfl ?_
      obtain ⟨p3, hp3, hc3⟩ := (rowOf_recs (S18.nth 2 rfl) _ rfl (fun _ => rfl) (by decide)).at tk0 (idxO (lineS (lexW (beforeL 35 (ls x)) [] (i + 1) 1) (fullD out) (bfD out))).toNat (by omega)
      refine PL.takeOK 5 (fun w_ S_ => OK.index 46 71 4 ra1 p3 ((lexW (beforeL 35 (ls x)) [] (i + 1) 1).length) (idxO (lineS (lexW (beforeL 35 (ls x)) [] (i + 1) 1) (fullD out) (bfD out))).toNat (idxO (lineS (lexW (beforeL 35 (ls x)) [] (i + 1) 1) (fullD out) (bfD out))) (p3.add ((idxO (lineS (lexW (beforeL 35 (ls x)) [] (i + 1) 1) (fullD out) (bfD out))).toNat * 4)) (by kernel_rfl) (by kernel_rfl) hp3 (by omega) (by omega) rfl) rfl ?_
      refine PL.take 6 47 (.pointer (some ((p3.add ((idxO (lineS (lexW (beforeL 35 (ls x)) [] (i + 1) 1) (fullD out) (bfD out))).toNat * 4)).add 2))) (fun _ _ => by kernel_rfl) ?_
      refine PL.take 8 49 (.pointer (some ⟨b3, 0, none⟩)) (fun _ _ => by kernel_rfl) ?_
      refine PL.take 9 50 (.pointer (some ⟨b3, 0, none⟩)) (fun _ _ => by kernel_rfl) ?_
      refine PL.take 10 51 (.pointer (some ⟨b3, 1, none⟩)) (fun _ _ => by kernel_rfl) ?_
      refine PL.takeOK 11 (fun w_ S_ => OK.ldBox S_ 1 52 28 1 (iv (errO (lineS (lexW (beforeL 35 (ls x)) [] (i + 1) 1) (fullD out) (bfD out)))) (by kernel_rfl) rfl (by kernel_rfl)) rfl ?_
      refine PL.take 12 2 (.slice none 0 0) (fun _ _ => by kernel_rfl) ?_
      refine PL.ok (OK.ldCells 48 39 ((p3.add ((idxO (lineS (lexW (beforeL 35 (ls x)) [] (i + 1) 1) (fullD out) (bfD out))).toNat * 4)).add 2) [iv (((lexW (beforeL 35 (ls x)) [] (i + 1) 1).getD (idxO (lineS (lexW (beforeL 35 (ls x)) [] (i + 1) 1) (fullD out) (bfD out))).toNat tk0).gPlace_Line), iv (((lexW (beforeL 35 (ls x)) [] (i + 1) 1).getD (idxO (lineS (lexW (beforeL 35 (ls x)) [] (i + 1) 1) (fullD out) (bfD out))).toNat tk0).gPlace_Column)] (by kernel_rfl) (by kernel_rfl) (by kernel_rfl) (fun j_ v_ hj_ => by rw [addr_add_add]; exact (hc3) (2 + j_) v_ (by rcases j_ with _ | _ | j_ <;> first | exact hj_ | (cases hj_; done) | (simp at hj_; done)))) ?_
      refine PB.mk (S18.erase 5) ?_
      refine PL.stBox S18 5 39 0 (.agg #[iv (((lexW (beforeL 35 (ls x)) [] (i + 1) 1).getD (idxO (lineS (lexW (beforeL 35 (ls x)) [] (i + 1) 1) (fullD out) (bfD out))).toNat tk0).gPlace_Line), iv (((lexW (beforeL 35 (ls x)) [] (i + 1) 1).getD (idxO (lineS (lexW (beforeL 35 (ls x)) [] (i + 1) 1) (fullD out) (bfD out))).toNat tk0).gPlace_Column)]) [iv (((lexW (beforeL 35 (ls x)) [] (i + 1) 1).getD (idxO (lineS (lexW (beforeL 35 (ls x)) [] (i + 1) 1) (fullD out) (bfD out))).toNat tk0).gPlace_Line), iv (((lexW (beforeL 35 (ls x)) [] (i + 1) 1).getD (idxO (lineS (lexW (beforeL 35 (ls x)) [] (i + 1) 1) (fullD out) (bfD out))).toNat tk0).gPlace_Column)] [box b4 [iv pd1.gAt, iv pd1.gPedal, iv pd1.gBrake, iv pd1.gGear, iv pd1.gLoad] 27, box b3 [.slice ra1 ((lexW (beforeL 35 (ls x)) [] (i + 1) 1).length) rc1, iv (errO (lineS (lexW (beforeL 35 (ls x)) [] (i + 1) 1) (fullD out) (bfD out))), iv pa1, iv (idxO (lineS (lexW (beforeL 35 (ls x)) [] (i + 1) 1) (fullD out) (bfD out)))] 75, rowOf tkE ra1 rc1 78 4 (lexW (beforeL 35 (ls x)) [] (i + 1) 1), rowOf drE ra rc 27 5 out, box b2 ((piecesB 10 s).map Value.string) 9, box b1 [iv (((lexW (beforeL 35 (ls x)) [] (i + 1) 1).getD (idxO (lineS (lexW (beforeL 35 (ls x)) [] (i + 1) 1) (fullD out) (bfD out))).toNat tk0).gPlace_Line), iv (((lexW (beforeL 35 (ls x)) [] (i + 1) 1).getD (idxO (lineS (lexW (beforeL 35 (ls x)) [] (i + 1) 1) (fullD out) (bfD out))).toNat tk0).gPlace_Column)] 39] (by kernel_rfl) rfl (by kernel_rfl) (by kernel_rfl) rfl ?_
      intro w13 S19
      refine PB.mk (S19.erase 5) ?_
      refine PL.take 14 4 (iv (errO (lineS (lexW (beforeL 35 (ls x)) [] (i + 1) 1) (fullD out) (bfD out)))) (fun _ _ => by kernel_rfl) ?_
      refine PL.done ?_
      refine J.run 0 (rRest K18_18) [(4, iv (errO (lineS (lexW (beforeL 35 (ls x)) [] (i + 1) 1) (fullD out) (bfD out)))), (2, .slice none 0 0), (3, .pointer (some ⟨b1, 0, none⟩))] w13 (by kernel_rfl) ?_
      refine J.ret Tryd.f18 [.slice none 0 0, .agg #[iv (((lexW (beforeL 35 (ls x)) [] (i + 1) 1).getD (idxO (lineS (lexW (beforeL 35 (ls x)) [] (i + 1) 1) (fullD out) (bfD out))).toNat tk0).gPlace_Line), iv (((lexW (beforeL 35 (ls x)) [] (i + 1) 1).getD (idxO (lineS (lexW (beforeL 35 (ls x)) [] (i + 1) 1) (fullD out) (bfD out))).toNat tk0).gPlace_Column)], iv (errO (lineS (lexW (beforeL 35 (ls x)) [] (i + 1) 1) (fullD out) (bfD out)))] Tryd.func18 ⟨by kernel_rfl, ⟨⟨b1, 0, none⟩, by kernel_rfl, ldV_run (S19.nth 5 rfl) (by kernel_rfl)⟩, by kernel_rfl, trivial⟩ ?_
      refine hR _ _ ?_
      have e_ : parF s = ⟨[], ((lexW (beforeL 35 (ls x)) [] (i + 1) 1).getD (idxO (lineS (lexW (beforeL 35 (ls x)) [] (i + 1) 1) (fullD out) (bfD out))).toNat tk0).gPlace_Line, ((lexW (beforeL 35 (ls x)) [] (i + 1) 1).getD (idxO (lineS (lexW (beforeL 35 (ls x)) [] (i + 1) 1) (fullD out) (bfD out))).toNat tk0).gPlace_Column, errO (lineS (lexW (beforeL 35 (ls x)) [] (i + 1) 1) (fullD out) (bfD out))⟩ := par_bad hst (by omega) (by omega)
      exact ⟨none, 0, by rw [e_]; rfl, by rw [e_]; exact S19.nil.nilRow 27 5⟩
   ·skip
    refine J.head (.bool false) (congrArg Value.bool (decide_eq_false fk2)) ?_
    refine J.run 9 K18_19 [(60, .bool ((out.length : Int) == 0)), (5, .slice ra out.length rc), (3, .pointer (some ⟨b1, 0, none⟩))] w4 (by kernel_rfl) ?_
    by_cases fk5 : (out.length : Int) = 0
    ·skip
     refine J.head (.bool true) (congrArg Value.bool (beq_iff_eq.2 fk5)) ?_
     refine J.run 5 K18_20 [(2, .slice none 0 0), (61, .agg #[iv 0, iv 0]), (3, .pointer (some ⟨b1, 0, none⟩))] w4 (by kernel_rfl) ?_
     refine J.stBox S5 2 39 0 (.agg #[iv 0, iv 0]) [iv 0, iv 0] [rowOf drE ra rc 27 5 out, box b2 ((piecesB 10 s).map Value.string) 9, box b1 [iv 0, iv 0] 39] (by kernel_rfl) rfl (by kernel_rfl) (by kernel_rfl) rfl ?_
     intro w14 S20
     refine J.run 2 K18_21 [(4, iv 4), (2, .slice none 0 0), (3, .pointer (some ⟨b1, 0, none⟩))] w14 (by kernel_rfl) ?_
     refine J.ret Tryd.f18 [.slice none 0 0, .agg #[iv 0, iv 0], iv 4] Tryd.func18 ⟨by kernel_rfl, ⟨⟨b1, 0, none⟩, by kernel_rfl, ldV_run (S20.nth 2 rfl) (by kernel_rfl)⟩, by kernel_rfl, trivial⟩ ?_
     refine hR _ _ ?_
     have e_ : parF s = ⟨[], 0, 0, 4⟩ := par_end hQ (by omega) (by omega)
     exact ⟨none, 0, by rw [e_]; rfl, by rw [e_]; exact S20.nil.nilRow 27 5⟩
    ·skip
     refine J.head (.bool false) (congrArg Value.bool (beq_eq_false_iff_ne.2 fk5)) ?_
     refine J.run 7 K18_22 [(2, .slice ra out.length rc), (63, .agg #[iv 0, iv 0]), (3, .pointer (some ⟨b1, 0, none⟩))] w4 (by kernel_rfl) ?_
     refine J.stBox S5 2 39 0 (.agg #[iv 0, iv 0]) [iv 0, iv 0] [rowOf drE ra rc 27 5 out, box b2 ((piecesB 10 s).map Value.string) 9, box b1 [iv 0, iv 0] 39] (by kernel_rfl) rfl (by kernel_rfl) (by kernel_rfl) rfl ?_
     intro w15 S21
     refine J.run 2 K18_23 [(4, iv 0), (2, .slice ra out.length rc), (3, .pointer (some ⟨b1, 0, none⟩))] w15 (by kernel_rfl) ?_
     refine J.ret Tryd.f18 [.slice ra out.length rc, .agg #[iv 0, iv 0], iv 0] Tryd.func18 ⟨by kernel_rfl, ⟨⟨b1, 0, none⟩, by kernel_rfl, ldV_run (S21.nth 2 rfl) (by kernel_rfl)⟩, by kernel_rfl, trivial⟩ ?_
     refine hR _ _ ?_
     have e_ : parF s = ⟨out, 0, 0, 0⟩ := par_done hQ (by omega) (by omega)
     exact ⟨_, _, by rw [e_]; rfl, by rw [e_]; exact S21.pick 0 rfl⟩
  exact L18_1 _ none 0 ([]) 0 w3 (by omega) (by omega) (by simp) (fun h_ => absurd rfl h_) (by unfold parF; rw [if_neg (by omega)]; rfl) S4 rfl

end Go.Proofs.YthhdaackhfffiaaDoor

