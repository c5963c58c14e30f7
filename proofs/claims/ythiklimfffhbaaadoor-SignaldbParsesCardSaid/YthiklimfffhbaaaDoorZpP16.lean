/- Walks of functions of this seat, printed by a program over the engine. Conditions: as each theorem says. -/
import Derived.Test.YthiklimfffhbaaaDoorZpP15
namespace Go.Proofs.YthiklimfffhbaaaDoor
noncomputable section
open Go.Eng Go.RowKit
set_option linter.unusedSimpArgs false
set_option linter.unusedVariables false
abbrev kvP16_1 : List Value := [iv 0, .string ByteArray.empty, iv 0, iv 0]
theorem hb44 : HasBody Tryd.prog 44 := fun _ _ => by kernel_rfl
def K44_0 := adv 19 [] (bodyOf Tryd.f44)
def K44_1 := adv 8 [] K44_0
def K44_2 := adv 2 [] K44_1
def K44_3 := adv 3 [] (popK K44_2)
def K44_4 := adv 7 [false] K44_3
def K44_5 := adv 9 [true] K44_3
def K44_6 := adv 2 [] (popK K44_5)
def K44_7 := adv 15 [true] K44_6
def K44_8 := adv 2 [] K44_6
def K44_9 := adv 3 [] (popK K44_8)
def K44_10 := adv 9 [true] K44_9
def K44_11 := adv 8 [false] K44_9
def K44_12 := adv 2 [false] K44_11
def K44_13 := adv 4 [] (rRest K44_12)
def K44_14 := adv 7 [true] K44_11
def K44_15 := adv 2 [] K44_14
def K44_16 := adv 5 [] (popK (popK K44_15))
def K44_17 := adv 4 [] (rRest K44_16)
def K44_18 := adv 13 [false] K44_1
set_option maxRecDepth 20000 in
set_option maxHeartbeats 20000000 in
theorem rwords_any (s : ByteArray) (ln : Int) (w : World) (hsz : s.size ≤ 1000000) (hln : 0 ≤ ln ∧ ln ≤ 1099511627776) : Ret Tryd.prog 44 #[.string s, iv ln] w (fun v w' => ∃ a c, v = .slice a ((wF (beforeL 35 (ls s)) [] 1).map (tkW ln)).length c ∧ Sep w [rowOf tkE a c 109 4 ((wF (beforeL 35 (ls s)) [] 1).map (tkW ln))] w') := by
 have S0 := Sep.refl w
 refine Ret.named fun R hR => ?_
 refine Ret.of_J (N := 60) [(0, .string s), (1, iv ln)] Tryd.func44 rfl rfl (Nat.le_of_ble_eq_true (by kernel_rfl)) (by kernel_rfl) ?_
 refine J.run 19 K44_0 [(7, iv 0), (6, .bool false), (5, .slice none 0 0), (0, .string s), (1, iv ln)] w (by kernel_rfl) ?_
 have S1 : Sep w [rowOf tkE none 0 109 4 ([])] w := S0.nilRow 109 4
 have L44_1 : ∀ (mm_ : Nat) (ra : Option Addr) (rc : Nat) (out : List Tk) (op : Bool) (i : Int) (w1 : World), (0 ≤ i) → (i ≤ (s.size : Int)) → (((out).length : Int) ≤ i) → (∀ y ∈ out, (y.gText.size : Int) ≤ i) → (rwQ s ln (wF (beforeL 35 (ls s)) [] 1) out i op) → Sep w [rowOf tkE ra rc 109 4 out] w1 → ((s.size : Int) - i).toNat = mm_ → J Tryd.prog 44 60 R K44_0 [(7, iv i), (6, .bool op), (5, .slice ra out.length rc), (0, .string s), (1, iv ln)] w1 := by
  intro mm1
  induction mm1 using Nat.strongRecOn with
  | _ mm1 ih1 =>
  intro ra rc out op i w1 h0 h1 hol hts hQ S2 hm1
  refine J.run 8 K44_1 [(12, .bool (decide (i < (s.size : Int)))), (7, iv i), (6, .bool op), (5, .slice ra out.length rc), (0, .string s), (1, iv ln)] w1 (by kernel_rfl) ?_
  by_cases fk1 : i < (s.size : Int)
  rotate_left
  ·skip
   refine J.head (.bool false) (congrArg Value.bool (decide_eq_false fk1)) ?_
   refine J.run 13 K44_18 [(4, .slice ra out.length rc)] w1 (by kernel_rfl) ?_
   refine J.ret Tryd.f44 [.slice ra out.length rc] Tryd.func44 ⟨by kernel_rfl, trivial⟩ ?_
   refine hR _ _ ?_
   have e_ : out = (wF (beforeL 35 (ls s)) [] 1).map (tkW ln) := rw_stop hQ h0 (by first | exact .inl (by omega) | exact .inr ⟨by omega, by omega⟩)
   subst e_
   exact ⟨_, _, rfl, S2.pick 0 rfl⟩
  refine J.head (.bool true) (congrArg Value.bool (decide_eq_true fk1)) ?_
  refine J.run 2 K44_2 [(14, iv i), (13, .string s), (12, .bool true), (7, iv i), (6, .bool op), (5, .slice ra out.length rc), (0, .string s), (1, iv ln)] w1 (by kernel_rfl) ?_
  have := byteAt_bounds s (i).toNat
  refine J.ok (OK.byte 15 9 s i (byteAt s (i).toNat) (by kernel_rfl) (by kernel_rfl) (by omega) (by omega) (rfl)) ?_
  refine J.run 3 K44_3 [(17, .bool ((byteAt s (i).toNat) != 35)), (7, iv i), (6, .bool op), (5, .slice ra out.length rc), (0, .string s), (1, iv ln)] w1 (by kernel_rfl) ?_
  by_cases fk2 : (byteAt s (i).toNat) = 35
  ·skip
   refine J.head (.bool false) (congrArg Value.bool (bne_eq_false_iff_eq.2 fk2)) ?_
   refine J.run 7 K44_4 [(4, .slice ra out.length rc)] w1 (by kernel_rfl) ?_
   refine J.ret Tryd.f44 [.slice ra out.length rc] Tryd.func44 ⟨by kernel_rfl, trivial⟩ ?_
   refine hR _ _ ?_
   have e_ : out = (wF (beforeL 35 (ls s)) [] 1).map (tkW ln) := rw_stop hQ h0 (by first | exact .inl (by omega) | exact .inr ⟨by omega, by omega⟩)
   subst e_
   exact ⟨_, _, rfl, S2.pick 0 rfl⟩
  refine J.head (.bool true) (congrArg Value.bool (bne_iff_ne.2 fk2)) ?_
  refine J.run 9 K44_5 [(21, iv i), (20, .string s), (7, iv i), (6, .bool op), (5, .slice ra out.length rc), (0, .string s), (1, iv ln)] w1 (by kernel_rfl) ?_
  have := byteAt_bounds s (i).toNat
  refine J.ok (OK.byte 22 9 s i (byteAt s (i).toNat) (by kernel_rfl) (by kernel_rfl) (by omega) (by omega) (rfl)) ?_
  refine J.run 2 K44_6 [(24, .bool ((byteAt s (i).toNat) == 32)), (7, iv i), (6, .bool op), (5, .slice ra out.length rc), (0, .string s), (1, iv ln)] w1 (by kernel_rfl) ?_
  by_cases fk3 : (byteAt s (i).toNat) = 32
  ·skip
   refine J.head (.bool true) (congrArg Value.bool (beq_iff_eq.2 fk3)) ?_
   refine J.run 15 K44_7 [(19, iv (IntKind.wrap .i64 (i + 1))), (6, .bool false), (5, .slice ra out.length rc), (0, .string s), (1, iv ln)] w1 (by kernel_rfl) ?_
   refine J.head (iv (i + 1)) (congrArg (Value.int .i64) (IntWalk.i64_in _ (by omega))) ?_
   refine J.run 3 K44_0 [(7, iv (i + 1)), (6, .bool false), (5, .slice ra out.length rc), (0, .string s), (1, iv ln)] w1 (by kernel_rfl) ?_
   refine J.run 0 K44_0 [(7, iv (i + 1)), (6, .bool false), (5, .slice ra out.length rc), (0, .string s), (1, iv ln)] w1 (by kernel_rfl) ?_
   exact ih1 _ (show ((s.size : Int) - (i + 1)).toNat < mm1 from by omega) ra rc out false (i + 1) w1 (by omega) (by omega) (by first | omega | (rw [List.length_set, List.length_append, List.length_singleton]; omega) | (rw [List.length_set]; omega)) (fun y hy => Int.le_trans (hts y hy) (by omega)) (rw_blank hQ h0 (by omega) (by omega) (by omega)) S2 rfl
  refine J.head (.bool false) (congrArg Value.bool (beq_eq_false_iff_ne.2 fk3)) ?_
  refine J.run 2 K44_8 [(26, iv i), (25, .string s), (24, .bool false), (7, iv i), (6, .bool op), (5, .slice ra out.length rc), (0, .string s), (1, iv ln)] w1 (by kernel_rfl) ?_
  have := byteAt_bounds s (i).toNat
  refine J.ok (OK.byte 27 9 s i (byteAt s (i).toNat) (by kernel_rfl) (by kernel_rfl) (by omega) (by omega) (rfl)) ?_
  refine J.run 3 K44_9 [(29, .bool ((byteAt s (i).toNat) == 9)), (7, iv i), (6, .bool op), (5, .slice ra out.length rc), (0, .string s), (1, iv ln)] w1 (by kernel_rfl) ?_
  by_cases fk4 : (byteAt s (i).toNat) = 9
  ·skip
   refine J.head (.bool true) (congrArg Value.bool (beq_iff_eq.2 fk4)) ?_
   refine J.run 9 K44_10 [(19, iv (IntKind.wrap .i64 (i + 1))), (6, .bool false), (5, .slice ra out.length rc), (0, .string s), (1, iv ln)] w1 (by kernel_rfl) ?_
   refine J.head (iv (i + 1)) (congrArg (Value.int .i64) (IntWalk.i64_in _ (by omega))) ?_
   refine J.run 3 K44_0 [(7, iv (i + 1)), (6, .bool false), (5, .slice ra out.length rc), (0, .string s), (1, iv ln)] w1 (by kernel_rfl) ?_
   refine J.run 0 K44_0 [(7, iv (i + 1)), (6, .bool false), (5, .slice ra out.length rc), (0, .string s), (1, iv ln)] w1 (by kernel_rfl) ?_
   exact ih1 _ (show ((s.size : Int) - (i + 1)).toNat < mm1 from by omega) ra rc out false (i + 1) w1 (by omega) (by omega) (by first | omega | (rw [List.length_set, List.length_append, List.length_singleton]; omega) | (rw [List.length_set]; omega)) (fun y hy => Int.le_trans (hts y hy) (by omega)) (rw_blank hQ h0 (by omega) (by omega) (by omega)) S2 rfl
  refine J.head (.bool false) (congrArg Value.bool (beq_eq_false_iff_ne.2 fk4)) ?_
  refine J.run 8 K44_11 [(31, .bool (!op)), (7, iv i), (6, .bool op), (5, .slice ra out.length rc), (0, .string s), (1, iv ln)] w1 (by kernel_rfl) ?_
  rcases Bool.eq_false_or_eq_true op with fk5 | fk5
  ·skip
   refine J.head (.bool false) (congrArg Value.bool (by rw [fk5]; rfl)) ?_
   have hop := rw_some hQ fk5
   refine J.run 2 K44_12 [(7, iv i), (6, .bool op), (5, .slice ra out.length rc), (0, .string s), (1, iv ln)] w1 (by kernel_rfl) ?_
   have hlz := ts_last hts h0 (((out.length : Int) - 1).toNat)
   have hxz := size_extract s (i := i.toNat) (j := (i + 1).toNat) (by omega)
   obtain ⟨p1, hp1, hc1⟩ := (rowOf_recs (S2.nth 0 rfl) _ rfl (fun _ => rfl) (by decide)).at tk0 ((out.length : Int) - 1).toNat (by omega)
   refine J.drawPlan (fun w_ => Sep w [] w_) [(0, true), (1, true), (2, true), (3, true), (4, true), (5, true), (6, true), (7, true), (8, true), (9, true), (11, true), (12, true), (13, true), (14, true), (15, true), (10, false), (16, true), (17, true), (18, true), (19, false)] S2 Tryd.mixed (by kernel_rfl) (planOK_of (T := [(0, some 40, 32), (0, some 41, 32), (2, some 42, 2199023255552), (4, some 43, 4398046511104), (0, some 44, 32), (0, some 45, 32), (32, some 46, 35184372088832), (64, some 47, 70368744177664), (144, some 48, 158329674399744), (256, some 49, 281474976710656), (512, some 50, 562949953421312), (0, some 51, 1), (0, some 52, 128), (0, some 53, 128), (8192, some 54, 9007199254740992), (22528, some 55, 24769797950537728), (33792, some 56, 37154696925806592), (131071, some 57, 9895604649984), (262143, some 58, 144115188075855872), (393215, none, 360287970189639680)]) (by kernel_rfl) (by kernel_rfl)) ?_
   intro w2 S3
   refine PB.mk (S3.erase 0) ?_
   refine PL.take 0 40 (.slice ra out.length rc) (fun _ _ => by kernel_rfl) ?_
   refine PL.take 1 41 (.slice ra out.length rc) (fun _ _ => by kernel_rfl) ?_
   refine PL.take 2 42 (iv (out.length : Int)) (fun _ _ => by kernel_rfl) ?_
   refine PL.take 3 43 (iv (IntKind.wrap .i64 ((out.length : Int) - 1))) (fun _ _ => by kernel_rfl) ?_
   refine PL.head (iv ((out.length : Int) - 1)) (congrArg (Value.int .i64) (IntWalk.i64_in _ (by omega))) ?_
   refine PL.take 4 44 (.slice ra out.length rc) (fun _ _ => by kernel_rfl) ?_
   refine PL.take 5 45 (.slice ra out.length rc) (fun _ _ => by kernel_rfl) ?_
   refine PL.take 6 46 (iv (out.length : Int)) (fun _ _ => by kernel_rfl) ?_
   refine PL.take 7 47 (iv (IntKind.wrap .i64 ((out.length : Int) - 1))) (fun _ _ => by kernel_rfl) ?_
   refine PL.head (iv ((out.length : Int) - 1)) (congrArg (Value.int .i64) (IntWalk.i64_in _ (by omega))) ?_
   obtain ⟨p2, hp2, hc2⟩ := (rowOf_recs (S3.nth 0 rfl) _ rfl (fun _ => rfl) (by decide)).at tk0 ((out.length : Int) - 1).toNat (by omega)
   refine PL.takeOK 8 (fun w_ S_ => OK.index 48 90 4 ra p2 out.length ((out.length : Int) - 1).toNat ((out.length : Int) - 1) (p2.add (((out.length : Int) - 1).toNat * 4)) (by kernel_rfl) (by kernel_rfl) hp2 (by omega) (by omega) rfl) rfl ?_
   refine PL.take 9 49 (.pointer (some ((p2.add (((out.length : Int) - 1).toNat * 4)).add 1))) (fun _ _ => by kernel_rfl) ?_
   refine PL.take 11 51 (.string s) (fun _ _ => by kernel_rfl) ?_
   refine PL.take 12 52 (iv i) (fun _ _ => by kernel_rfl) ?_
   refine PL.take 13 53 (iv i) (fun _ _ => by kernel_rfl) ?_
   refine PL.take 14 54 (iv (IntKind.wrap .i64 (i + 1))) (fun _ _ => by kernel_rfl) ?_
   refine PL.head (iv (i + 1)) (congrArg (Value.int .i64) (IntWalk.i64_in _ (by omega))) ?_
   refine PL.takeOK 15 (fun w_ S_ => OK.sliceT 55 9 s (some (iv i)) (some (iv (i + 1))) ((i).toNat) ((i + 1).toNat) (by kernel_rfl) (by kernel_rfl) (.inr ⟨_, _, rfl, by omega⟩) (.inr ⟨_, _, rfl, by omega⟩) (by first | omega | (simp; omega)) (by first | omega | (simp; omega))) rfl ?_
   refine PL.ok (OK.ldCell 50 9 ((p2.add (((out.length : Int) - 1).toNat * 4)).add 1) (.string ((out.getD ((out.length : Int) - 1).toNat tk0).gText)) (by kernel_rfl) (by kernel_rfl) (hc2 1 _ rfl)) ?_
   refine PB.mk (S3.erase 0) ?_
   refine PL.takeOK 16 (fun w_ S_ => OK.cat 56 ((out.getD ((out.length : Int) - 1).toNat tk0).gText) (s.extract ((i).toNat) ((i + 1).toNat)) (((out.getD ((out.length : Int) - 1).toNat tk0).gText) ++ (s.extract ((i).toNat) ((i + 1).toNat))) (by kernel_rfl) (by first | omega | (simp only [ByteArray.size_append]; omega) | (simp only [ByteArray.size_append, lit_size, List.size_toArray, List.length_cons, List.length_nil]; omega) | (simp; omega)) (rfl)) rfl ?_
   refine PL.takeOK 17 (fun w_ S_ => OK.index 57 90 4 ra p2 out.length ((out.length : Int) - 1).toNat ((out.length : Int) - 1) (p2.add (((out.length : Int) - 1).toNat * 4)) (by kernel_rfl) (by kernel_rfl) hp2 (by omega) (by omega) rfl) rfl ?_
   refine PL.take 18 58 (.pointer (some ((p2.add (((out.length : Int) - 1).toNat * 4)).add 1))) (fun _ _ => by kernel_rfl) ?_
   refine PL.stRowF S3 0 4 out 9 ((p2.add (((out.length : Int) - 1).toNat * 4)).add 1) p2 (((out.length : Int) - 1).toNat) 1 (out.getD (((out.length : Int) - 1).toNat) tk0) ({ (out.getD (((out.length : Int) - 1).toNat) tk0) with gText := ((out.getD ((out.length : Int) - 1).toNat tk0).gText) ++ (s.extract ((i).toNat) ((i + 1).toNat)) } : Tk) (.string (((out.getD ((out.length : Int) - 1).toNat tk0).gText) ++ (s.extract ((i).toNat) ((i + 1).toNat)))) rfl (by kernel_rfl) rfl hp2 (getD_some (by first | omega | (simp; omega))) (fun _ _ => rfl) (by decide) rfl rfl rfl (by kernel_rfl) ?_
   intro w3 S4
   replace S4 : Sep w [rowOf tkE ra rc 109 4 (out.set (((out.length : Int) - 1).toNat) ({ (out.getD (((out.length : Int) - 1).toNat) tk0) with gText := ((out.getD ((out.length : Int) - 1).toNat tk0).gText) ++ (s.extract ((i).toNat) ((i + 1).toNat)) } : Tk))] w3 := S4
   refine PB.mk (S4.erase 0) ?_
   refine PL.done ?_
   refine J.run 0 (rRest K44_12) [(7, iv i), (6, .bool op), (5, .slice ra out.length rc), (0, .string s), (1, iv ln)] w3 (by kernel_rfl) ?_
   refine J.run 4 K44_13 [(19, iv (IntKind.wrap .i64 (i + 1))), (6, .bool op), (5, .slice ra out.length rc), (0, .string s), (1, iv ln)] w3 (by kernel_rfl) ?_
   refine J.head (iv (i + 1)) (congrArg (Value.int .i64) (IntWalk.i64_in _ (by omega))) ?_
   refine J.run 3 K44_0 [(7, iv (i + 1)), (6, .bool op), (5, .slice ra out.length rc), (0, .string s), (1, iv ln)] w3 (by kernel_rfl) ?_
   refine J.run 0 K44_0 [(7, iv (i + 1)), (6, .bool op), (5, .slice ra out.length rc), (0, .string s), (1, iv ln)] w3 (by kernel_rfl) ?_
   have hih_ := ih1 _ (show ((s.size : Int) - (i + 1)).toNat < mm1 from by omega) ra rc (out.set (((out.length : Int) - 1).toNat) ({ (out.getD (((out.length : Int) - 1).toNat) tk0) with gText := ((out.getD ((out.length : Int) - 1).toNat tk0).gText) ++ (s.extract ((i).toNat) ((i + 1).toNat)) } : Tk)) op (i + 1) w3 (by omega) (by omega) (by first | omega | (rw [List.length_set, List.length_append, List.length_singleton]; omega) | (rw [List.length_set]; omega)) (ts_set hts h0 _ (by omega)) (by rw [fk5]; exact rw_more hQ fk5 h0 (by omega) (by omega) (by omega) (by omega)) S4 rfl
   rw [List.length_set] at hih_
   exact hih_
  refine J.head (.bool true) (congrArg Value.bool (by rw [fk5]; rfl)) ?_
  refine J.run 7 K44_14 [(35, iv (IntKind.wrap .i64 (i + 1))), (33, iv ln), (32, .slice ra out.length rc), (7, iv i), (0, .string s), (1, iv ln)] w1 (by kernel_rfl) ?_
  refine J.head (iv (i + 1)) (congrArg (Value.int .i64) (IntWalk.i64_in _ (by omega))) ?_
  refine J.run 2 K44_15 [(37, .agg #[iv 0, .string ByteArray.empty, iv ln, iv (i + 1)]), (32, .slice ra out.length rc), (7, iv i), (0, .string s), (1, iv ln)] w1 (by kernel_rfl) ?_
  refine J.newSlice S2 38 1 [iv 0, .string ByteArray.empty, iv ln, iv (i + 1)] 109 (by kernel_rfl) ?_
  intro b1 w4 S5
  refine J.append tkE S5 1 out (⟨0, ByteArray.empty, ln, i + 1⟩ : Tk) 39 90 (.agg #[iv 0, .string ByteArray.empty, iv 0, iv 0]) 40 ⟨b1, 0, none⟩ 1 rfl (by kernel_rfl) (by kernel_rfl) (by kernel_rfl) (by kernel_rfl) (by decide) (box_cells (S5.nth 0 rfl)) (by kernel_rfl) (by kernel_rfl) (⟨by omega, by omega⟩) ?_
  intro ra1 rc1 w5 S6
  replace S6 : Sep w [box b1 [iv 0, .string ByteArray.empty, iv ln, iv (i + 1)] 109, rowOf tkE ra1 rc1 109 4 (out ++ [(⟨0, ByteArray.empty, ln, i + 1⟩ : Tk)])] w5 := S6
  have S7 : Sep w [rowOf tkE ra1 rc1 109 4 (out ++ [(⟨0, ByteArray.empty, ln, i + 1⟩ : Tk)])] w5 := S6.erase 0
  clear S6
  refine J.run 5 K44_16 [(6, .bool true), (5, .slice ra1 ((out ++ [(⟨0, ByteArray.empty, ln, i + 1⟩ : Tk)]).length) rc1), (7, iv i), (0, .string s), (1, iv ln)] w5 (by kernel_rfl) ?_
  have hlen : (out ++ [(⟨0, ByteArray.empty, ln, i + 1⟩ : Tk)]).length = out.length + 1 := by rw [List.length_append]; rfl
  have hts2 := ts_snoc hts h0 (y := (⟨0, ByteArray.empty, ln, i + 1⟩ : Tk)) rfl
  have hlz := ts_last hts2 h0 ((((out ++ [(⟨0, ByteArray.empty, ln, i + 1⟩ : Tk)]).length : Int) - 1).toNat)
  have hxz := size_extract s (i := i.toNat) (j := (i + 1).toNat) (by omega)
  obtain ⟨p3, hp3, hc3⟩ := (rowOf_recs (S7.nth 0 rfl) _ rfl (fun _ => rfl) (by decide)).at tk0 (((out ++ [(⟨0, ByteArray.empty, ln, i + 1⟩ : Tk)]).length : Int) - 1).toNat (by omega)
  refine J.drawPlan (fun w_ => Sep w [] w_) [(0, true), (1, true), (2, true), (3, true), (4, true), (5, true), (6, true), (7, true), (8, true), (9, true), (11, true), (12, true), (13, true), (14, true), (15, true), (10, false), (16, true), (17, true), (18, true), (19, false)] S7 Tryd.mixed (by kernel_rfl) (planOK_of (T := [(0, some 40, 32), (0, some 41, 32), (2, some 42, 2199023255552), (4, some 43, 4398046511104), (0, some 44, 32), (0, some 45, 32), (32, some 46, 35184372088832), (64, some 47, 70368744177664), (144, some 48, 158329674399744), (256, some 49, 281474976710656), (512, some 50, 562949953421312), (0, some 51, 1), (0, some 52, 128), (0, some 53, 128), (8192, some 54, 9007199254740992), (22528, some 55, 24769797950537728), (33792, some 56, 37154696925806592), (131071, some 57, 9895604649984), (262143, some 58, 144115188075855872), (393215, none, 360287970189639680)]) (by kernel_rfl) (by kernel_rfl)) ?_
  intro w6 S8
  refine PB.mk (S8.erase 0) ?_
  refine PL.take 0 40 (.slice ra1 ((out ++ [(⟨0, ByteArray.empty, ln, i + 1⟩ : Tk)]).length) rc1) (fun _ _ => by kernel_rfl) ?_
  refine PL.take 1 41 (.slice ra1 ((out ++ [(⟨0, ByteArray.empty, ln, i + 1⟩ : Tk)]).length) rc1) (fun _ _ => by kernel_rfl) ?_
  refine PL.take 2 42 (iv ((out ++ [(⟨0, ByteArray.empty, ln, i + 1⟩ : Tk)]).length : Int)) (fun _ _ => by kernel_rfl) ?_
  refine PL.take 3 43 (iv (IntKind.wrap .i64 (((out ++ [(⟨0, ByteArray.empty, ln, i + 1⟩ : Tk)]).length : Int) - 1))) (fun _ _ => by kernel_rfl) ?_
  refine PL.head (iv (((out ++ [(⟨0, ByteArray.empty, ln, i + 1⟩ : Tk)]).length : Int) - 1)) (congrArg (Value.int .i64) (IntWalk.i64_in _ (by omega))) ?_
  refine PL.take 4 44 (.slice ra1 ((out ++ [(⟨0, ByteArray.empty, ln, i + 1⟩ : Tk)]).length) rc1) (fun _ _ => by kernel_rfl) ?_
  refine PL.take 5 45 (.slice ra1 ((out ++ [(⟨0, ByteArray.empty, ln, i + 1⟩ : Tk)]).length) rc1) (fun _ _ => by kernel_rfl) ?_
  refine PL.take 6 46 (iv ((out ++ [(⟨0, ByteArray.empty, ln, i + 1⟩ : Tk)]).length : Int)) (fun _ _ => by kernel_rfl) ?_
  refine PL.take 7 47 (iv (IntKind.wrap .i64 (((out ++ [(⟨0, ByteArray.empty, ln, i + 1⟩ : Tk)]).length : Int) - 1))) (fun _ _ => by kernel_rfl) ?_
  refine PL.head (iv (((out ++ [(⟨0, ByteArray.empty, ln, i + 1⟩ : Tk)]).length : Int) - 1)) (congrArg (Value.int .i64) (IntWalk.i64_in _ (by omega))) ?_
  obtain ⟨p4, hp4, hc4⟩ := (rowOf_recs (S8.nth 0 rfl) _ rfl (fun _ => rfl) (by decide)).at tk0 (((out ++ [(⟨0, ByteArray.empty, ln, i + 1⟩ : Tk)]).length : Int) - 1).toNat (by omega)
  refine PL.takeOK 8 (fun w_ S_ => OK.index 48 90 4 ra1 p4 ((out ++ [(⟨0, ByteArray.empty, ln, i + 1⟩ : Tk)]).length) (((out ++ [(⟨0, ByteArray.empty, ln, i + 1⟩ : Tk)]).length : Int) - 1).toNat (((out ++ [(⟨0, ByteArray.empty, ln, i + 1⟩ : Tk)]).length : Int) - 1) (p4.add ((((out ++ [(⟨0, ByteArray.empty, ln, i + 1⟩ : Tk)]).length : Int) - 1).toNat * 4)) (by kernel_rfl) (by kernel_rfl) hp4 (by omega) (by omega) rfl) rfl ?_
  refine PL.take 9 49 (.pointer (some ((p4.add ((((out ++ [(⟨0, ByteArray.empty, ln, i + 1⟩ : Tk)]).length : Int) - 1).toNat * 4)).add 1))) (fun _ _ => by kernel_rfl) ?_
  refine PL.take 11 51 (.string s) (fun _ _ => by kernel_rfl) ?_
  refine PL.take 12 52 (iv i) (fun _ _ => by kernel_rfl) ?_
  refine PL.take 13 53 (iv i) (fun _ _ => by kernel_rfl) ?_
  refine PL.take 14 54 (iv (IntKind.wrap .i64 (i + 1))) (fun _ _ => by kernel_rfl) ?_
  refine PL.head (iv (i + 1)) (congrArg (Value.int .i64) (IntWalk.i64_in _ (by omega))) ?_
  refine PL.takeOK 15 (fun w_ S_ => OK.sliceT 55 9 s (some (iv i)) (some (iv (i + 1))) ((i).toNat) ((i + 1).toNat) (by kernel_rfl) (by kernel_rfl) (.inr ⟨_, _, rfl, by omega⟩) (.inr ⟨_, _, rfl, by omega⟩) (by first | omega | (simp; omega)) (by first | omega | (simp; omega))) rfl ?_
  refine PL.ok (OK.ldCell 50 9 ((p4.add ((((out ++ [(⟨0, ByteArray.empty, ln, i + 1⟩ : Tk)]).length : Int) - 1).toNat * 4)).add 1) (.string (((out ++ [(⟨0, ByteArray.empty, ln, i + 1⟩ : Tk)]).getD (((out ++ [(⟨0, ByteArray.empty, ln, i + 1⟩ : Tk)]).length : Int) - 1).toNat tk0).gText)) (by kernel_rfl) (by kernel_rfl) (hc4 1 _ rfl)) ?_
  refine PB.mk (S8.erase 0) ?_
  refine PL.takeOK 16 (fun w_ S_ => OK.cat 56 (((out ++ [(⟨0, ByteArray.empty, ln, i + 1⟩ : Tk)]).getD (((out ++ [(⟨0, ByteArray.empty, ln, i + 1⟩ : Tk)]).length : Int) - 1).toNat tk0).gText) (s.extract ((i).toNat) ((i + 1).toNat)) ((((out ++ [(⟨0, ByteArray.empty, ln, i + 1⟩ : Tk)]).getD (((out ++ [(⟨0, ByteArray.empty, ln, i + 1⟩ : Tk)]).length : Int) - 1).toNat tk0).gText) ++ (s.extract ((i).toNat) ((i + 1).toNat))) (by kernel_rfl) (by first | omega | (simp only [ByteArray.size_append]; omega) | (simp only [ByteArray.size_append, lit_size, List.size_toArray, List.length_cons, List.length_nil]; omega) | (simp; omega)) (rfl)) rfl ?_
  refine PL.takeOK 17 (fun w_ S_ => OK.index 57 90 4 ra1 p4 ((out ++ [(⟨0, ByteArray.empty, ln, i + 1⟩ : Tk)]).length) (((out ++ [(⟨0, ByteArray.empty, ln, i + 1⟩ : Tk)]).length : Int) - 1).toNat (((out ++ [(⟨0, ByteArray.empty, ln, i + 1⟩ : Tk)]).length : Int) - 1) (p4.add ((((out ++ [(⟨0, ByteArray.empty, ln, i + 1⟩ : Tk)]).length : Int) - 1).toNat * 4)) (by kernel_rfl) (by kernel_rfl) hp4 (by omega) (by omega) rfl) rfl ?_
  refine PL.take 18 58 (.pointer (some ((p4.add ((((out ++ [(⟨0, ByteArray.empty, ln, i + 1⟩ : Tk)]).length : Int) - 1).toNat * 4)).add 1))) (fun _ _ => by kernel_rfl) ?_
  refine PL.stRowF S8 0 4 (out ++ [(⟨0, ByteArray.empty, ln, i + 1⟩ : Tk)]) 9 ((p4.add ((((out ++ [(⟨0, ByteArray.empty, ln, i + 1⟩ : Tk)]).length : Int) - 1).toNat * 4)).add 1) p4 ((((out ++ [(⟨0, ByteArray.empty, ln, i + 1⟩ : Tk)]).length : Int) - 1).toNat) 1 ((out ++ [(⟨0, ByteArray.empty, ln, i + 1⟩ : Tk)]).getD ((((out ++ [(⟨0, ByteArray.empty, ln, i + 1⟩ : Tk)]).length : Int) - 1).toNat) tk0) ({ ((out ++ [(⟨0, ByteArray.empty, ln, i + 1⟩ : Tk)]).getD ((((out ++ [(⟨0, ByteArray.empty, ln, i + 1⟩ : Tk)]).length : Int) - 1).toNat) tk0) with gText := (((out ++ [(⟨0, ByteArray.empty, ln, i + 1⟩ : Tk)]).getD (((out ++ [(⟨0, ByteArray.empty, ln, i + 1⟩ : Tk)]).length : Int) - 1).toNat tk0).gText) ++ (s.extract ((i).toNat) ((i + 1).toNat)) } : Tk) (.string ((((out ++ [(⟨0, ByteArray.empty, ln, i + 1⟩ : Tk)]).getD (((out ++ [(⟨0, ByteArray.empty, ln, i + 1⟩ : Tk)]).length : Int) - 1).toNat tk0).gText) ++ (s.extract ((i).toNat) ((i + 1).toNat)))) rfl (by kernel_rfl) rfl hp4 (getD_some (by first | omega | (simp; omega))) (fun _ _ => rfl) (by decide) rfl rfl rfl (by kernel_rfl) ?_
  intro w7 S9
  replace S9 : Sep w [rowOf tkE ra1 rc1 109 4 ((out ++ [(⟨0, ByteArray.empty, ln, i + 1⟩ : Tk)]).set ((((out ++ [(⟨0, ByteArray.empty, ln, i + 1⟩ : Tk)]).length : Int) - 1).toNat) ({ ((out ++ [(⟨0, ByteArray.empty, ln, i + 1⟩ : Tk)]).getD ((((out ++ [(⟨0, ByteArray.empty, ln, i + 1⟩ : Tk)]).length : Int) - 1).toNat) tk0) with gText := (((out ++ [(⟨0, ByteArray.empty, ln, i + 1⟩ : Tk)]).getD (((out ++ [(⟨0, ByteArray.empty, ln, i + 1⟩ : Tk)]).length : Int) - 1).toNat tk0).gText) ++ (s.extract ((i).toNat) ((i + 1).toNat)) } : Tk))] w7 := S9
  refine PB.mk (S9.erase 0) ?_
  refine PL.done ?_
  refine J.run 0 (rRest K44_16) [(6, .bool true), (5, .slice ra1 ((out ++ [(⟨0, ByteArray.empty, ln, i + 1⟩ : Tk)]).length) rc1), (7, iv i), (0, .string s), (1, iv ln)] w7 (by kernel_rfl) ?_
  refine J.run 4 K44_17 [(19, iv (IntKind.wrap .i64 (i + 1))), (6, .bool true), (5, .slice ra1 ((out ++ [(⟨0, ByteArray.empty, ln, i + 1⟩ : Tk)]).length) rc1), (0, .string s), (1, iv ln)] w7 (by kernel_rfl) ?_
  refine J.head (iv (i + 1)) (congrArg (Value.int .i64) (IntWalk.i64_in _ (by omega))) ?_
  refine J.run 3 K44_0 [(7, iv (i + 1)), (6, .bool true), (5, .slice ra1 ((out ++ [(⟨0, ByteArray.empty, ln, i + 1⟩ : Tk)]).length) rc1), (0, .string s), (1, iv ln)] w7 (by kernel_rfl) ?_
  refine J.run 0 K44_0 [(7, iv (i + 1)), (6, .bool true), (5, .slice ra1 ((out ++ [(⟨0, ByteArray.empty, ln, i + 1⟩ : Tk)]).length) rc1), (0, .string s), (1, iv ln)] w7 (by kernel_rfl) ?_
  have hih_ := ih1 _ (show ((s.size : Int) - (i + 1)).toNat < mm1 from by omega) ra1 rc1 ((out ++ [(⟨0, ByteArray.empty, ln, i + 1⟩ : Tk)]).set ((((out ++ [(⟨0, ByteArray.empty, ln, i + 1⟩ : Tk)]).length : Int) - 1).toNat) ({ ((out ++ [(⟨0, ByteArray.empty, ln, i + 1⟩ : Tk)]).getD ((((out ++ [(⟨0, ByteArray.empty, ln, i + 1⟩ : Tk)]).length : Int) - 1).toNat) tk0) with gText := (((out ++ [(⟨0, ByteArray.empty, ln, i + 1⟩ : Tk)]).getD (((out ++ [(⟨0, ByteArray.empty, ln, i + 1⟩ : Tk)]).length : Int) - 1).toNat tk0).gText) ++ (s.extract ((i).toNat) ((i + 1).toNat)) } : Tk)) true (i + 1) w7 (by omega) (by omega) (by first | omega | (rw [List.length_set, List.length_append, List.length_singleton]; omega) | (rw [List.length_set]; omega)) (ts_set hts2 h0 _ (by omega)) (rw_new hQ fk5 h0 (by omega) (by omega) (by omega) (by omega) rfl) S9 rfl
  rw [List.length_set] at hih_
  exact hih_
 exact L44_1 _ none 0 ([]) false 0 w (by omega) (by omega) (by simp) (fun y hy => by cases hy) (rw_first s ln) S1 rfl

theorem hb67 : HasBody Tryd.prog 67 := fun _ _ => by kernel_rfl
def K67_0 := adv 2 [] (bodyOf Tryd.f67)
def K67_1 := adv 7 [] (popK K67_0)
def K67_2 := adv 2 [] (popK K67_1)
def K67_3 := adv 8 [false] K67_2
def K67_4 := adv 3 [] (popK K67_3)
def K67_5 := adv 8 [true] K67_4
def K67_6 := adv 2 [] (popK K67_5)
def K67_7 := adv 2 [] (popK K67_6)
def K67_8 := adv 4 [] (popK K67_7)
def K67_9 := adv 1 [] (popK K67_8)
def K67_10 := adv 7 [false] K67_4
def K67_11 := adv 7 [] (popK (popK (popK (popK (popK K67_10)))))
def K67_12 := adv 2 [] (popK (popK K67_11))
def K67_13 := adv 3 [] (popK K67_12)
def K67_14 := adv 1 [] (popK (popK K67_13))
def K67_15 := adv 4 [true] K67_2
def K67_16 := adv 1 [] (popK K67_15)
set_option maxRecDepth 20000 in
set_option maxHeartbeats 20000000 in
theorem rnext_any (b : Nat) (a p : Option Addr) (c : Nat) (W : List Tk) (el ec : Int) (r : Rs) (w0 : World) (L0 : List Eng.Claim) (w : World) (S0 : Sep w0 (box b [.slice p (W.length - r.j) (c - r.j), iv el, iv ec, iv r.pl, iv r.pc, iv r.e] 94 :: rowOf tkE a c 109 4 W :: L0) w) (hp : subP a c r.j p) (hj : r.j ≤ W.length) : Ret Tryd.prog 67 #[.pointer (some ⟨b, 0, none⟩)] w (fun v w' => ∃ p' r' t, r' = nxS W el ec r ∧ t = nxT W r ∧ subP a c r'.j p' ∧ r'.j ≤ W.length ∧ v = .agg #[iv t.gKind, .string t.gText, iv t.gPlace_Line, iv t.gPlace_Column] ∧ Sep w0 (box b [.slice p' (W.length - r'.j) (c - r'.j), iv el, iv ec, iv r'.pl, iv r'.pc, iv r'.e] 94 :: rowOf tkE a c 109 4 W :: L0) w') := by
 refine Ret.named fun R hR => ?_
 refine Ret.of_J (N := 42) [(0, .pointer (some ⟨b, 0, none⟩))] Tryd.func67 rfl rfl (Nat.le_of_ble_eq_true (by kernel_rfl)) (by kernel_rfl) ?_
 have hcap := (rowOf_cells (S0.nth 1 rfl)).2.2
 refine J.run 2 K67_0 [(0, .pointer (some ⟨b, 0, none⟩))] w (by kernel_rfl) ?_
 refine J.new S0 2 kvP16_1 109 (by kernel_rfl) ?_
 intro b1 w1 S1
 refine J.run 7 K67_1 [(6, .pointer (some ⟨b, 5, none⟩)), (2, .pointer (some ⟨b1, 0, none⟩)), (0, .pointer (some ⟨b, 0, none⟩))] w1 (by kernel_rfl) ?_
 refine J.ok (OK.ldBox S1 1 7 3 5 (iv r.e) (by kernel_rfl) rfl (by kernel_rfl)) ?_
 refine J.run 2 K67_2 [(8, .bool (r.e != 0)), (2, .pointer (some ⟨b1, 0, none⟩)), (0, .pointer (some ⟨b, 0, none⟩))] w1 (by kernel_rfl) ?_
 by_cases fk1 : r.e = 0
 rotate_left
 ·skip
  refine J.head (.bool true) (congrArg Value.bool (bne_iff_ne.2 fk1)) ?_
  refine J.run 4 K67_15 [(9, .agg #[iv 0, .string ByteArray.empty, iv 0, iv 0]), (2, .pointer (some ⟨b1, 0, none⟩))] w1 (by kernel_rfl) ?_
  refine J.stBox S1 0 109 0 (.agg #[iv 0, .string ByteArray.empty, iv 0, iv 0]) kvP16_1 (box b1 kvP16_1 109 :: box b [.slice p (W.length - r.j) (c - r.j), iv el, iv ec, iv r.pl, iv r.pc, iv r.e] 94 :: rowOf tkE a c 109 4 W :: L0) (by kernel_rfl) rfl (by kernel_rfl) (by kernel_rfl) rfl ?_
  intro w9 S11
  refine J.run 1 K67_16 [(2, .pointer (some ⟨b1, 0, none⟩))] w9 (by kernel_rfl) ?_
  refine J.ret Tryd.f67 [.agg #[iv 0, .string ByteArray.empty, iv 0, iv 0]] Tryd.func67 ⟨⟨⟨b1, 0, none⟩, by kernel_rfl, ldV_run (S11.nth 0 rfl) (by kernel_rfl)⟩, trivial⟩ ?_
  refine hR _ _ ?_
  have S12 : Sep w0 (box b [.slice p (W.length - r.j) (c - r.j), iv el, iv ec, iv r.pl, iv r.pc, iv r.e] 94 :: rowOf tkE a c 109 4 W :: L0) w9 := S11.sub (.cons _ (.cons_cons _ (.cons_cons _ (List.Sublist.refl _))))
  clear S11
  exact ⟨p, _, _, (nx_ne fk1).symm, (nt_ne fk1).symm, hp, hj, rfl, S12⟩
 refine J.head (.bool false) (congrArg Value.bool (bne_eq_false_iff_eq.2 fk1)) ?_
 refine J.run 8 K67_3 [(12, .pointer (some ⟨b, 0, none⟩)), (2, .pointer (some ⟨b1, 0, none⟩)), (0, .pointer (some ⟨b, 0, none⟩))] w1 (by kernel_rfl) ?_
 refine J.ok (OK.ldBox S1 1 13 90 0 (.slice p (W.length - r.j) (c - r.j)) (by kernel_rfl) rfl (by kernel_rfl)) ?_
 refine J.run 3 K67_4 [(15, .bool (((W.length - r.j : Nat) : Int) == 0)), (2, .pointer (some ⟨b1, 0, none⟩)), (0, .pointer (some ⟨b, 0, none⟩))] w1 (by kernel_rfl) ?_
 by_cases fk2 : ((W.length - r.j : Nat) : Int) = 0
 ·skip
  refine J.head (.bool true) (congrArg Value.bool (beq_iff_eq.2 fk2)) ?_
  refine J.run 8 K67_5 [(20, .pointer (some ⟨b, 1, none⟩)), (17, .pointer (some ⟨b, 0, none⟩)), (16, .pointer (some ⟨b, 0, none⟩)), (2, .pointer (some ⟨b1, 0, none⟩))] w1 (by kernel_rfl) ?_
  refine J.ok (OK.ldBox S1 1 21 40 1 (.agg #[iv el, iv ec]) (by kernel_rfl) rfl (by kernel_rfl)) ?_
  refine J.run 2 K67_6 [(23, .pointer (some ⟨b, 3, none⟩)), (21, .agg #[iv el, iv ec]), (17, .pointer (some ⟨b, 0, none⟩)), (2, .pointer (some ⟨b1, 0, none⟩))] w1 (by kernel_rfl) ?_
  refine J.stBox S1 1 40 3 (.agg #[iv el, iv ec]) [.slice p (W.length - r.j) (c - r.j), iv el, iv ec, iv el, iv ec, iv r.e] (box b1 kvP16_1 109 :: box b [.slice p (W.length - r.j) (c - r.j), iv el, iv ec, iv el, iv ec, iv r.e] 94 :: rowOf tkE a c 109 4 W :: L0) (by kernel_rfl) rfl (by kernel_rfl) (by kernel_rfl) rfl ?_
  intro w2 S2
  refine J.run 2 K67_7 [(25, .pointer (some ⟨b, 5, none⟩)), (2, .pointer (some ⟨b1, 0, none⟩))] w2 (by kernel_rfl) ?_
  refine J.stBox S2 1 3 5 (iv 4) [.slice p (W.length - r.j) (c - r.j), iv el, iv ec, iv el, iv ec, iv 4] (box b1 kvP16_1 109 :: box b [.slice p (W.length - r.j) (c - r.j), iv el, iv ec, iv el, iv ec, iv 4] 94 :: rowOf tkE a c 109 4 W :: L0) (by kernel_rfl) rfl (by kernel_rfl) (by kernel_rfl) rfl ?_
  intro w3 S3
  refine J.run 4 K67_8 [(26, .agg #[iv 0, .string ByteArray.empty, iv 0, iv 0]), (2, .pointer (some ⟨b1, 0, none⟩))] w3 (by kernel_rfl) ?_
  refine J.stBox S3 0 109 0 (.agg #[iv 0, .string ByteArray.empty, iv 0, iv 0]) kvP16_1 (box b1 kvP16_1 109 :: box b [.slice p (W.length - r.j) (c - r.j), iv el, iv ec, iv el, iv ec, iv 4] 94 :: rowOf tkE a c 109 4 W :: L0) (by kernel_rfl) rfl (by kernel_rfl) (by kernel_rfl) rfl ?_
  intro w4 S4
  refine J.run 1 K67_9 [(2, .pointer (some ⟨b1, 0, none⟩))] w4 (by kernel_rfl) ?_
  refine J.ret Tryd.f67 [.agg #[iv 0, .string ByteArray.empty, iv 0, iv 0]] Tryd.func67 ⟨⟨⟨b1, 0, none⟩, by kernel_rfl, ldV_run (S4.nth 0 rfl) (by kernel_rfl)⟩, trivial⟩ ?_
  refine hR _ _ ?_
  have S5 : Sep w0 (box b [.slice p (W.length - r.j) (c - r.j), iv el, iv ec, iv el, iv ec, iv 4] 94 :: rowOf tkE a c 109 4 W :: L0) w4 := S4.sub (.cons _ (.cons_cons _ (.cons_cons _ (List.Sublist.refl _))))
  clear S4
  exact ⟨p, _, _, (nx_end fk1 (by omega)).symm, (nt_end fk1 (by omega)).symm, hp, hj, rfl, S5⟩
 refine J.head (.bool false) (congrArg Value.bool (beq_eq_false_iff_ne.2 fk2)) ?_
 refine J.run 7 K67_10 [(29, .pointer (some ⟨b, 0, none⟩)), (2, .pointer (some ⟨b1, 0, none⟩)), (0, .pointer (some ⟨b, 0, none⟩))] w1 (by kernel_rfl) ?_
 refine J.ok (OK.ldBox S1 1 30 90 0 (.slice p (W.length - r.j) (c - r.j)) (by kernel_rfl) rfl (by kernel_rfl)) ?_
 obtain ⟨p1, hp1, hc1⟩ := (sub_recs (g := tkE) (W := W) (a := a) (c := c) (e := 109) (S1.nth 2 rfl) (fun _ => rfl) hp (by omega)).at tk0 0 (by omega)
 refine J.ok (OK.index 31 90 4 p p1 (W.length - r.j) 0 0 (p1.add (0 * 4)) (by kernel_rfl) (by kernel_rfl) hp1 (by omega) (by omega) rfl) ?_
 refine J.ok (OK.ldCells 32 109 (p1.add (0 * 4)) [iv (((W.drop r.j).getD 0 tk0).gKind), .string (((W.drop r.j).getD 0 tk0).gText), iv (((W.drop r.j).getD 0 tk0).gPlace_Line), iv (((W.drop r.j).getD 0 tk0).gPlace_Column)] (by kernel_rfl) (by kernel_rfl) (by kernel_rfl) hc1) ?_
 refine J.new S1 3 kvP16_1 109 (by kernel_rfl) ?_
 intro b2 w5 S6
 refine J.stBox S6 0 109 0 (.agg #[iv (((W.drop r.j).getD 0 tk0).gKind), .string (((W.drop r.j).getD 0 tk0).gText), iv (((W.drop r.j).getD 0 tk0).gPlace_Line), iv (((W.drop r.j).getD 0 tk0).gPlace_Column)]) [iv (((W.drop r.j).getD 0 tk0).gKind), .string (((W.drop r.j).getD 0 tk0).gText), iv (((W.drop r.j).getD 0 tk0).gPlace_Line), iv (((W.drop r.j).getD 0 tk0).gPlace_Column)] (box b2 [iv (((W.drop r.j).getD 0 tk0).gKind), .string (((W.drop r.j).getD 0 tk0).gText), iv (((W.drop r.j).getD 0 tk0).gPlace_Line), iv (((W.drop r.j).getD 0 tk0).gPlace_Column)] 109 :: box b1 kvP16_1 109 :: box b [.slice p (W.length - r.j) (c - r.j), iv el, iv ec, iv r.pl, iv r.pc, iv r.e] 94 :: rowOf tkE a c 109 4 W :: L0) (by kernel_rfl) rfl (by kernel_rfl) (by kernel_rfl) rfl ?_
 intro w6 S7
 refine J.run 7 K67_11 [(36, .pointer (some ⟨b, 0, none⟩)), (33, .pointer (some ⟨b, 0, none⟩)), (3, .pointer (some ⟨b2, 0, none⟩)), (2, .pointer (some ⟨b1, 0, none⟩))] w6 (by kernel_rfl) ?_
 refine J.ok (OK.ldBox S7 2 37 90 0 (.slice p (W.length - r.j) (c - r.j)) (by kernel_rfl) rfl (by kernel_rfl)) ?_
 refine J.ok (OK.slice 38 90 4 p (W.length - r.j) (c - r.j) (some (iv 1)) none 1 (W.length - r.j) (by kernel_rfl) (by kernel_rfl) (.inr ⟨_, _, rfl, rfl⟩) (.inl ⟨rfl, rfl⟩) (by first | omega | (simp; omega)) (by first | omega | (simp; omega))) ?_
 refine J.run 2 K67_12 [(40, .pointer (some ⟨b, 0, none⟩)), (38, .slice (subA p (c - r.j) 1 4) ((W.length - r.j) - 1) ((c - r.j) - 1)), (3, .pointer (some ⟨b2, 0, none⟩)), (2, .pointer (some ⟨b1, 0, none⟩))] w6 (by kernel_rfl) ?_
 refine J.stBox S7 2 90 0 (.slice (subA p (c - r.j) 1 4) ((W.length - r.j) - 1) ((c - r.j) - 1)) [.slice (subA p (c - r.j) 1 4) ((W.length - r.j) - 1) ((c - r.j) - 1), iv el, iv ec, iv r.pl, iv r.pc, iv r.e] (box b2 [iv (((W.drop r.j).getD 0 tk0).gKind), .string (((W.drop r.j).getD 0 tk0).gText), iv (((W.drop r.j).getD 0 tk0).gPlace_Line), iv (((W.drop r.j).getD 0 tk0).gPlace_Column)] 109 :: box b1 kvP16_1 109 :: box b [.slice (subA p (c - r.j) 1 4) ((W.length - r.j) - 1) ((c - r.j) - 1), iv el, iv ec, iv r.pl, iv r.pc, iv r.e] 94 :: rowOf tkE a c 109 4 W :: L0) (by kernel_rfl) rfl (by kernel_rfl) (by kernel_rfl) rfl ?_
 intro w7 S8
 refine J.run 3 K67_13 [(3, .pointer (some ⟨b2, 0, none⟩)), (2, .pointer (some ⟨b1, 0, none⟩))] w7 (by kernel_rfl) ?_
 refine J.ok (OK.ldBox S8 0 41 109 0 (.agg #[iv (((W.drop r.j).getD 0 tk0).gKind), .string (((W.drop r.j).getD 0 tk0).gText), iv (((W.drop r.j).getD 0 tk0).gPlace_Line), iv (((W.drop r.j).getD 0 tk0).gPlace_Column)]) (by kernel_rfl) rfl (by kernel_rfl)) ?_
 refine J.stBox S8 1 109 0 (.agg #[iv (((W.drop r.j).getD 0 tk0).gKind), .string (((W.drop r.j).getD 0 tk0).gText), iv (((W.drop r.j).getD 0 tk0).gPlace_Line), iv (((W.drop r.j).getD 0 tk0).gPlace_Column)]) [iv (((W.drop r.j).getD 0 tk0).gKind), .string (((W.drop r.j).getD 0 tk0).gText), iv (((W.drop r.j).getD 0 tk0).gPlace_Line), iv (((W.drop r.j).getD 0 tk0).gPlace_Column)] (box b2 [iv (((W.drop r.j).getD 0 tk0).gKind), .string (((W.drop r.j).getD 0 tk0).gText), iv (((W.drop r.j).getD 0 tk0).gPlace_Line), iv (((W.drop r.j).getD 0 tk0).gPlace_Column)] 109 :: box b1 [iv (((W.drop r.j).getD 0 tk0).gKind), .string (((W.drop r.j).getD 0 tk0).gText), iv (((W.drop r.j).getD 0 tk0).gPlace_Line), iv (((W.drop r.j).getD 0 tk0).gPlace_Column)] 109 :: box b [.slice (subA p (c - r.j) 1 4) ((W.length - r.j) - 1) ((c - r.j) - 1), iv el, iv ec, iv r.pl, iv r.pc, iv r.e] 94 :: rowOf tkE a c 109 4 W :: L0) (by kernel_rfl) rfl (by kernel_rfl) (by kernel_rfl) rfl ?_
 intro w8 S9
 refine J.run 1 K67_14 [(2, .pointer (some ⟨b1, 0, none⟩))] w8 (by kernel_rfl) ?_
 refine J.ret Tryd.f67 [.agg #[iv (((W.drop r.j).getD 0 tk0).gKind), .string (((W.drop r.j).getD 0 tk0).gText), iv (((W.drop r.j).getD 0 tk0).gPlace_Line), iv (((W.drop r.j).getD 0 tk0).gPlace_Column)]] Tryd.func67 ⟨⟨⟨b1, 0, none⟩, by kernel_rfl, ldV_run (S9.nth 1 rfl) (by kernel_rfl)⟩, trivial⟩ ?_
 refine hR _ _ ?_
 have S10 : Sep w0 (box b [.slice (subA p (c - r.j) 1 4) ((W.length - r.j) - 1) ((c - r.j) - 1), iv el, iv ec, iv r.pl, iv r.pc, iv r.e] 94 :: rowOf tkE a c 109 4 W :: L0) w8 := S9.sub (.cons _ (.cons _ (.cons_cons _ (.cons_cons _ (List.Sublist.refl _)))))
 clear S9
 rw [fk1] at S10
 exact ⟨_, _, _, (nx_get fk1 (by omega)).symm, (nt_get fk1).symm, subP_next hp, by show r.j + 1 ≤ _; omega, rfl, by rw [← Nat.sub_sub, ← Nat.sub_sub]; exact S10⟩

theorem hb71 : HasBody Tryd.prog 71 := fun _ _ => by kernel_rfl
def K71_0 := adv 2 [] (bodyOf Tryd.f71)
def K71_1 := adv 6 [] (popK K71_0)
def K71_2 := adv 2 [] (popK K71_1)
def K71_3 := adv 5 [true] K71_2
def K71_4 := adv 2 [] (popK K71_3)
def K71_5 := adv 2 [] (popK K71_4)
def K71_6 := adv 1 [] (popK K71_5)
def K71_7 := adv 2 [false] K71_2
set_option maxRecDepth 20000 in
set_option maxHeartbeats 20000000 in
theorem rrefuse_any (b : Nat) (sl : Value) (el ec : Int) (r : Rs) (t : Tk) (w0 : World) (L0 : List Eng.Claim) (w : World) (S0 : Sep w0 (box b [sl, iv el, iv ec, iv r.pl, iv r.pc, iv r.e] 94 :: L0) w) : Ret Tryd.prog 71 #[.pointer (some ⟨b, 0, none⟩), .agg #[iv t.gKind, .string t.gText, iv t.gPlace_Line, iv t.gPlace_Column]] w (fun v w' => ∃ r', r' = rfS r t ∧ v = .tuple #[] ∧ Sep w0 (box b [sl, iv el, iv ec, iv r'.pl, iv r'.pc, iv r'.e] 94 :: L0) w') := by
 refine Ret.named fun R hR => ?_
 refine Ret.of_J (N := 17) [(0, .pointer (some ⟨b, 0, none⟩)), (1, .agg #[iv t.gKind, .string t.gText, iv t.gPlace_Line, iv t.gPlace_Column])] Tryd.func71 rfl rfl (Nat.le_of_ble_eq_true (by kernel_rfl)) (by kernel_rfl) ?_
 refine J.run 2 K71_0 [(0, .pointer (some ⟨b, 0, none⟩)), (1, .agg #[iv t.gKind, .string t.gText, iv t.gPlace_Line, iv t.gPlace_Column])] w (by kernel_rfl) ?_
 refine J.new S0 3 [iv t.gKind, .string t.gText, iv t.gPlace_Line, iv t.gPlace_Column] 109 (by kernel_rfl) ?_
 intro b1 w1 S1
 refine J.run 6 K71_1 [(6, .pointer (some ⟨b, 5, none⟩)), (3, .pointer (some ⟨b1, 0, none⟩)), (0, .pointer (some ⟨b, 0, none⟩))] w1 (by kernel_rfl) ?_
 refine J.ok (OK.ldBox S1 1 7 3 5 (iv r.e) (by kernel_rfl) rfl (by kernel_rfl)) ?_
 refine J.run 2 K71_2 [(8, .bool (r.e == 0)), (3, .pointer (some ⟨b1, 0, none⟩)), (0, .pointer (some ⟨b, 0, none⟩))] w1 (by kernel_rfl) ?_
 by_cases fk1 : r.e = 0
 rotate_left
 ·skip
  refine J.head (.bool false) (congrArg Value.bool (beq_eq_false_iff_ne.2 fk1)) ?_
  refine J.run 2 K71_7 [] w1 (by kernel_rfl) ?_
  refine J.done Tryd.f71 [] Tryd.func71 trivial ?_
  refine hR _ _ ?_
  have S5 : Sep w0 (box b [sl, iv el, iv ec, iv r.pl, iv r.pc, iv r.e] 94 :: L0) w1 := S1.sub (.cons _ (.cons_cons _ (List.Sublist.refl _)))
  clear S1
  exact ⟨_, (rf_ne fk1).symm, rfl, S5⟩
 refine J.head (.bool true) (congrArg Value.bool (beq_iff_eq.2 fk1)) ?_
 refine J.run 5 K71_3 [(11, .pointer (some ⟨b1, 2, none⟩)), (10, .pointer (some ⟨b, 0, none⟩)), (9, .pointer (some ⟨b, 0, none⟩))] w1 (by kernel_rfl) ?_
 refine J.ok (OK.ldBox S1 0 12 40 2 (.agg #[iv t.gPlace_Line, iv t.gPlace_Column]) (by kernel_rfl) rfl (by kernel_rfl)) ?_
 refine J.run 2 K71_4 [(14, .pointer (some ⟨b, 3, none⟩)), (12, .agg #[iv t.gPlace_Line, iv t.gPlace_Column]), (10, .pointer (some ⟨b, 0, none⟩))] w1 (by kernel_rfl) ?_
 refine J.stBox S1 1 40 3 (.agg #[iv t.gPlace_Line, iv t.gPlace_Column]) [sl, iv el, iv ec, iv t.gPlace_Line, iv t.gPlace_Column, iv r.e] (box b1 [iv t.gKind, .string t.gText, iv t.gPlace_Line, iv t.gPlace_Column] 109 :: box b [sl, iv el, iv ec, iv t.gPlace_Line, iv t.gPlace_Column, iv r.e] 94 :: L0) (by kernel_rfl) rfl (by kernel_rfl) (by kernel_rfl) rfl ?_
 intro w2 S2
 refine J.run 2 K71_5 [(16, .pointer (some ⟨b, 5, none⟩))] w2 (by kernel_rfl) ?_
 refine J.stBox S2 1 3 5 (iv 3) [sl, iv el, iv ec, iv t.gPlace_Line, iv t.gPlace_Column, iv 3] (box b1 [iv t.gKind, .string t.gText, iv t.gPlace_Line, iv t.gPlace_Column] 109 :: box b [sl, iv el, iv ec, iv t.gPlace_Line, iv t.gPlace_Column, iv 3] 94 :: L0) (by kernel_rfl) rfl (by kernel_rfl) (by kernel_rfl) rfl ?_
 intro w3 S3
 refine J.run 1 K71_6 [] w3 (by kernel_rfl) ?_
 refine J.done Tryd.f71 [] Tryd.func71 trivial ?_
 refine hR _ _ ?_
 have S4 : Sep w0 (box b [sl, iv el, iv ec, iv t.gPlace_Line, iv t.gPlace_Column, iv 3] 94 :: L0) w3 := S3.sub (.cons _ (.cons_cons _ (List.Sublist.refl _)))
 clear S3
 exact ⟨_, (rf_eq fk1).symm, rfl, S4⟩

theorem num_yes {t : ByteArray} (h : parE t = 0) (h2 : -1099511627776 ≤ parX t ∧ parX t ≤ 1099511627776) : (decide (parE t = 0) && inB (parX t) (-1099511627776) 1099511627776) = true := by unfold inB; simp [h, h2]
theorem num_no {t : ByteArray} (h : parE t ≠ 0 ∨ parX t < -1099511627776 ∨ 1099511627776 < parX t) : (decide (parE t = 0) && inB (parX t) (-1099511627776) 1099511627776) = false := by
  unfold inB; simp; intro h1 h2; omega
theorem hb68 : HasBody Tryd.prog 68 := fun _ _ => by kernel_rfl
def K68_0 := adv 7 [] (bodyOf Tryd.f68)
def K68_1 := adv 4 [] (popK (popK (popK K68_0)))
def K68_2 := adv 12 [] (popK (popK K68_1))
def K68_3 := adv 4 [] K68_2
def K68_4 := adv 8 [true] K68_3
def K68_5 := adv 5 [] (popK (popK K68_4))
def K68_6 := adv 4 [] K68_3
def K68_7 := adv 4 [true] K68_6
def K68_8 := adv 5 [] (popK (popK K68_7))
def K68_9 := adv 7 [false] K68_6
def K68_10 := adv 12 [true] K68_2
def K68_11 := adv 5 [] (popK (popK K68_10))
set_option maxRecDepth 20000 in
set_option maxHeartbeats 20000000 in
theorem rnumber_any (b : Nat) (a p : Option Addr) (c : Nat) (W : List Tk) (el ec : Int) (r : Rs) (w0 : World) (L0 : List Eng.Claim) (w : World) (S0 : Sep w0 (box b [.slice p (W.length - r.j) (c - r.j), iv el, iv ec, iv r.pl, iv r.pc, iv r.e] 94 :: rowOf tkE a c 109 4 W :: L0) w) (hp : subP a c r.j p) (hj : r.j ≤ W.length) (hts : ∀ k, (W.getD k tk0).gText.size ≤ 1000000) : Ret Tryd.prog 68 #[.pointer (some ⟨b, 0, none⟩)] w (fun v w' => ∃ p' r', r' = nuS W el ec r ∧  subP a c r'.j p' ∧ r'.j ≤ W.length ∧ v = iv (nuV W r) ∧ Sep w0 (box b [.slice p' (W.length - r'.j) (c - r'.j), iv el, iv ec, iv r'.pl, iv r'.pc, iv r'.e] 94 :: rowOf tkE a c 109 4 W :: L0) w') := by
 refine Ret.named fun R hR => ?_
 refine Ret.of_J (N := 28) [(0, .pointer (some ⟨b, 0, none⟩))] Tryd.func68 rfl rfl (Nat.le_of_ble_eq_true (by kernel_rfl)) (by kernel_rfl) ?_
 have hcap := (rowOf_cells (S0.nth 1 rfl)).2.2
 refine J.run 7 K68_0 [(6, .pointer (some ⟨b, 0, none⟩)), (0, .pointer (some ⟨b, 0, none⟩))] w (by kernel_rfl) ?_
 refine J.callF 7 67 #[.pointer (some ⟨b, 0, none⟩)] hb67 (by kernel_rfl) (rnext_any b a p c W el ec r _ _ _ S0 hp hj) ?_
 rintro _ w1 ⟨p1, r1, t1, hr1, ht1, hp1, hj1, rfl, S1⟩
 replace S1 : Sep w0 (box b [.slice p1 (W.length - r1.j) (c - r1.j), iv el, iv ec, iv r1.pl, iv r1.pc, iv r1.e] 94 :: rowOf tkE a c 109 4 W :: L0) w1 := S1
 have z_t1 : t1.gText.size ≤ 1000000 := by rw [ht1]; exact nt_size hts
 refine J.new S1 3 kvP16_1 109 (by kernel_rfl) ?_
 intro b1 w2 S2
 refine J.stBox S2 0 109 0 (.agg #[iv t1.gKind, .string t1.gText, iv t1.gPlace_Line, iv t1.gPlace_Column]) [iv t1.gKind, .string t1.gText, iv t1.gPlace_Line, iv t1.gPlace_Column] (box b1 [iv t1.gKind, .string t1.gText, iv t1.gPlace_Line, iv t1.gPlace_Column] 109 :: box b [.slice p1 (W.length - r1.j) (c - r1.j), iv el, iv ec, iv r1.pl, iv r1.pc, iv r1.e] 94 :: rowOf tkE a c 109 4 W :: L0) (by kernel_rfl) rfl (by kernel_rfl) (by kernel_rfl) rfl ?_
 intro w3 S3
 refine J.run 4 K68_1 [(9, .pointer (some ⟨b1, 1, none⟩)), (3, .pointer (some ⟨b1, 0, none⟩)), (0, .pointer (some ⟨b, 0, none⟩))] w3 (by kernel_rfl) ?_
 refine J.ok (OK.ldBox S3 0 10 9 1 (.string t1.gText) (by kernel_rfl) rfl (by kernel_rfl)) ?_
 refine J.callF 11 86 #[.string t1.gText] hb86 (by kernel_rfl) (rparse_any t1.gText _ (by omega)) ?_
 rintro _ w4 ⟨rfl, T1⟩
 have S4 : Sep w0 (box b1 [iv t1.gKind, .string t1.gText, iv t1.gPlace_Line, iv t1.gPlace_Column] 109 :: box b [.slice p1 (W.length - r1.j) (c - r1.j), iv el, iv ec, iv r1.pl, iv r1.pc, iv r1.e] 94 :: rowOf tkE a c 109 4 W :: L0) w4 := S3.trans T1
 clear T1 S3
 have := par_bounds t1.gText
 refine J.run 12 K68_2 [(16, .bool ((parE t1.gText) != 0)), (4, iv (parX t1.gText)), (3, .pointer (some ⟨b1, 0, none⟩)), (0, .pointer (some ⟨b, 0, none⟩))] w4 (by kernel_rfl) ?_
 by_cases fk1 : (parE t1.gText) = 0
 rotate_left
 ·skip
  refine J.head (.bool true) (congrArg Value.bool (bne_iff_ne.2 fk1)) ?_
  refine J.run 12 K68_10 [(24, .pointer (some ⟨b, 0, none⟩)), (3, .pointer (some ⟨b1, 0, none⟩))] w4 (by kernel_rfl) ?_
  refine J.ok (OK.ldBox S4 0 25 109 0 (.agg #[iv t1.gKind, .string t1.gText, iv t1.gPlace_Line, iv t1.gPlace_Column]) (by kernel_rfl) rfl (by kernel_rfl)) ?_
  have S14 := S4.front 1 rfl
  clear S4
  refine J.callF 26 71 #[.pointer (some ⟨b, 0, none⟩), .agg #[iv t1.gKind, .string t1.gText, iv t1.gPlace_Line, iv t1.gPlace_Column]] hb71 (by kernel_rfl) (rrefuse_any b (.slice p1 (W.length - r1.j) (c - r1.j)) el ec r1 t1 _ _ _ S14) ?_
  rintro _ w7 ⟨r4, hr4, rfl, S15⟩
  clear S14
  have hj6 : r4.j = r1.j := by rw [hr4]; exact rf_j _ _
  have hp4 : subP a c r4.j p1 := by rw [hj6]; exact hp1
  have hj7 : r4.j ≤ W.length := by rw [hj6]; exact hj1
  rw [← hj6] at S15
  have S16 : Sep w0 (box b1 [iv t1.gKind, .string t1.gText, iv t1.gPlace_Line, iv t1.gPlace_Column] 109 :: box b [.slice p1 (W.length - r4.j) (c - r4.j), iv el, iv ec, iv r4.pl, iv r4.pc, iv r4.e] 94 :: rowOf tkE a c 109 4 W :: L0) w7 := S15.front 1 rfl
  clear S15
  refine J.run 5 K68_11 [(2, iv 0)] w7 (by kernel_rfl) ?_
  refine J.ret Tryd.f68 [iv 0] Tryd.func68 ⟨by kernel_rfl, trivial⟩ ?_
  refine hR _ _ ?_
  have S17 : Sep w0 (box b [.slice p1 (W.length - r4.j) (c - r4.j), iv el, iv ec, iv r4.pl, iv r4.pc, iv r4.e] 94 :: rowOf tkE a c 109 4 W :: L0) w7 := S16.sub (.cons _ (.cons_cons _ (.cons_cons _ (List.Sublist.refl _))))
  clear S16
  obtain ⟨e1, e2⟩ := nu_no (el := el) (ec := ec) (r := r) (W := W) (by rw [← ht1]; unfold numOk; exact num_no (by omega))
  exact ⟨_, _, by rw [e1, ← hr1, ← ht1]; exact hr4, hp4, hj7, by rw [e2]; rfl, S17⟩
 refine J.head (.bool false) (congrArg Value.bool (bne_eq_false_iff_eq.2 fk1)) ?_
 refine J.run 4 K68_3 [(20, .bool (decide ((parX t1.gText) < (-1099511627776)))), (4, iv (parX t1.gText)), (3, .pointer (some ⟨b1, 0, none⟩)), (0, .pointer (some ⟨b, 0, none⟩))] w4 (by kernel_rfl) ?_
 by_cases fk2 : (parX t1.gText) < (-1099511627776)
 ·skip
  refine J.head (.bool true) (congrArg Value.bool (decide_eq_true fk2)) ?_
  refine J.run 8 K68_4 [(24, .pointer (some ⟨b, 0, none⟩)), (3, .pointer (some ⟨b1, 0, none⟩))] w4 (by kernel_rfl) ?_
  refine J.ok (OK.ldBox S4 0 25 109 0 (.agg #[iv t1.gKind, .string t1.gText, iv t1.gPlace_Line, iv t1.gPlace_Column]) (by kernel_rfl) rfl (by kernel_rfl)) ?_
  have S5 := S4.front 1 rfl
  clear S4
  refine J.callF 26 71 #[.pointer (some ⟨b, 0, none⟩), .agg #[iv t1.gKind, .string t1.gText, iv t1.gPlace_Line, iv t1.gPlace_Column]] hb71 (by kernel_rfl) (rrefuse_any b (.slice p1 (W.length - r1.j) (c - r1.j)) el ec r1 t1 _ _ _ S5) ?_
  rintro _ w5 ⟨r2, hr2, rfl, S6⟩
  clear S5
  have hj2 : r2.j = r1.j := by rw [hr2]; exact rf_j _ _
  have hp2 : subP a c r2.j p1 := by rw [hj2]; exact hp1
  have hj3 : r2.j ≤ W.length := by rw [hj2]; exact hj1
  rw [← hj2] at S6
  have S7 : Sep w0 (box b1 [iv t1.gKind, .string t1.gText, iv t1.gPlace_Line, iv t1.gPlace_Column] 109 :: box b [.slice p1 (W.length - r2.j) (c - r2.j), iv el, iv ec, iv r2.pl, iv r2.pc, iv r2.e] 94 :: rowOf tkE a c 109 4 W :: L0) w5 := S6.front 1 rfl
  clear S6
  refine J.run 5 K68_5 [(2, iv 0)] w5 (by kernel_rfl) ?_
  refine J.ret Tryd.f68 [iv 0] Tryd.func68 ⟨by kernel_rfl, trivial⟩ ?_
  refine hR _ _ ?_
  have S8 : Sep w0 (box b [.slice p1 (W.length - r2.j) (c - r2.j), iv el, iv ec, iv r2.pl, iv r2.pc, iv r2.e] 94 :: rowOf tkE a c 109 4 W :: L0) w5 := S7.sub (.cons _ (.cons_cons _ (.cons_cons _ (List.Sublist.refl _))))
  clear S7
  obtain ⟨e1, e2⟩ := nu_no (el := el) (ec := ec) (r := r) (W := W) (by rw [← ht1]; unfold numOk; exact num_no (by omega))
  exact ⟨_, _, by rw [e1, ← hr1, ← ht1]; exact hr2, hp2, hj3, by rw [e2]; rfl, S8⟩
 refine J.head (.bool false) (congrArg Value.bool (decide_eq_false fk2)) ?_
 refine J.run 4 K68_6 [(23, .bool (decide ((parX t1.gText) > 1099511627776))), (4, iv (parX t1.gText)), (3, .pointer (some ⟨b1, 0, none⟩)), (0, .pointer (some ⟨b, 0, none⟩))] w4 (by kernel_rfl) ?_
 by_cases fk3 : (parX t1.gText) > 1099511627776
 rotate_left
 ·skip
  refine J.head (.bool false) (congrArg Value.bool (decide_eq_false fk3)) ?_
  refine J.run 7 K68_9 [(2, iv (parX t1.gText))] w4 (by kernel_rfl) ?_
  refine J.ret Tryd.f68 [iv (parX t1.gText)] Tryd.func68 ⟨by kernel_rfl, trivial⟩ ?_
  refine hR _ _ ?_
  have S13 : Sep w0 (box b [.slice p1 (W.length - r1.j) (c - r1.j), iv el, iv ec, iv r1.pl, iv r1.pc, iv r1.e] 94 :: rowOf tkE a c 109 4 W :: L0) w4 := S4.sub (.cons _ (.cons_cons _ (.cons_cons _ (List.Sublist.refl _))))
  clear S4
  obtain ⟨e1, e2⟩ := nu_ok (el := el) (ec := ec) (r := r) (W := W) (by rw [← ht1]; unfold numOk; exact num_yes (by omega) (by omega))
  exact ⟨_, _, hr1.trans e1.symm, hp1, hj1, by rw [e2, ← ht1]; rfl, S13⟩
 refine J.head (.bool true) (congrArg Value.bool (decide_eq_true fk3)) ?_
 refine J.run 4 K68_7 [(24, .pointer (some ⟨b, 0, none⟩)), (3, .pointer (some ⟨b1, 0, none⟩))] w4 (by kernel_rfl) ?_
 refine J.ok (OK.ldBox S4 0 25 109 0 (.agg #[iv t1.gKind, .string t1.gText, iv t1.gPlace_Line, iv t1.gPlace_Column]) (by kernel_rfl) rfl (by kernel_rfl)) ?_
 have S9 := S4.front 1 rfl
 clear S4
 refine J.callF 26 71 #[.pointer (some ⟨b, 0, none⟩), .agg #[iv t1.gKind, .string t1.gText, iv t1.gPlace_Line, iv t1.gPlace_Column]] hb71 (by kernel_rfl) (rrefuse_any b (.slice p1 (W.length - r1.j) (c - r1.j)) el ec r1 t1 _ _ _ S9) ?_
 rintro _ w6 ⟨r3, hr3, rfl, S10⟩
 clear S9
 have hj4 : r3.j = r1.j := by rw [hr3]; exact rf_j _ _
 have hp3 : subP a c r3.j p1 := by rw [hj4]; exact hp1
 have hj5 : r3.j ≤ W.length := by rw [hj4]; exact hj1
 rw [← hj4] at S10
 have S11 : Sep w0 (box b1 [iv t1.gKind, .string t1.gText, iv t1.gPlace_Line, iv t1.gPlace_Column] 109 :: box b [.slice p1 (W.length - r3.j) (c - r3.j), iv el, iv ec, iv r3.pl, iv r3.pc, iv r3.e] 94 :: rowOf tkE a c 109 4 W :: L0) w6 := S10.front 1 rfl
 clear S10
 refine J.run 5 K68_8 [(2, iv 0)] w6 (by kernel_rfl) ?_
 refine J.ret Tryd.f68 [iv 0] Tryd.func68 ⟨by kernel_rfl, trivial⟩ ?_
 refine hR _ _ ?_
 have S12 : Sep w0 (box b [.slice p1 (W.length - r3.j) (c - r3.j), iv el, iv ec, iv r3.pl, iv r3.pc, iv r3.e] 94 :: rowOf tkE a c 109 4 W :: L0) w6 := S11.sub (.cons _ (.cons_cons _ (.cons_cons _ (List.Sublist.refl _))))
 clear S11
 obtain ⟨e1, e2⟩ := nu_no (el := el) (ec := ec) (r := r) (W := W) (by rw [← ht1]; unfold numOk; exact num_no (by omega))
 exact ⟨_, _, by rw [e1, ← hr1, ← ht1]; exact hr3, hp3, hj5, by rw [e2]; rfl, S12⟩

theorem or_t {a b : Bool} (h : a = true) : (a || b) = true := by rw [h]; rfl
theorem nb {a u : Bool} (h : (!a) = u) : a = !u := by cases a <;> subst h <;> rfl
theorem or_e {a b u v : Bool} (h : a = u) (h2 : b = v) : (a || b) = (u || v) := by rw [h, h2]
theorem hb69 : HasBody Tryd.prog 69 := fun _ _ => by kernel_rfl
def K69_0 := adv 7 [] (bodyOf Tryd.f69)
def K69_1 := adv 5 [] (popK (popK (popK K69_0)))
def K69_2 := adv 3 [] (popK K69_1)
def K69_3 := adv 1 [] K69_2
def K69_4 := adv 4 [] (popK K69_3)
def K69_5 := adv 3 [true] K69_4
def K69_6 := adv 4 [] (popK (popK K69_5))
def K69_7 := adv 4 [] (popK K69_6)
def K69_8 := adv 5 [false] K69_4
def K69_9 := adv 4 [] (popK K69_8)
def K69_10 := adv 11 [false] K69_2
def K69_11 := adv 4 [] (popK K69_10)
set_option maxRecDepth 20000 in
set_option maxHeartbeats 20000000 in
theorem reither_any (b : Nat) (a p : Option Addr) (c : Nat) (W : List Tk) (el ec : Int) (r : Rs) (x y : ByteArray) (w0 : World) (L0 : List Eng.Claim) (w : World) (S0 : Sep w0 (box b [.slice p (W.length - r.j) (c - r.j), iv el, iv ec, iv r.pl, iv r.pc, iv r.e] 94 :: rowOf tkE a c 109 4 W :: L0) w) (hp : subP a c r.j p) (hj : r.j ≤ W.length) : Ret Tryd.prog 69 #[.pointer (some ⟨b, 0, none⟩), .string x, .string y] w (fun v w' => ∃ p' r', r' = eiS W el ec x y r ∧  subP a c r'.j p' ∧ r'.j ≤ W.length ∧ v = .bool (eqT (nxT W r).gText y) ∧ Sep w0 (box b [.slice p' (W.length - r'.j) (c - r'.j), iv el, iv ec, iv r'.pl, iv r'.pc, iv r'.e] 94 :: rowOf tkE a c 109 4 W :: L0) w') := by
 refine Ret.named fun R hR => ?_
 refine Ret.of_J (N := 27) [(0, .pointer (some ⟨b, 0, none⟩)), (1, .string x), (2, .string y)] Tryd.func69 rfl rfl (Nat.le_of_ble_eq_true (by kernel_rfl)) (by kernel_rfl) ?_
 have hcap := (rowOf_cells (S0.nth 1 rfl)).2.2
 refine J.run 7 K69_0 [(8, .pointer (some ⟨b, 0, none⟩)), (0, .pointer (some ⟨b, 0, none⟩)), (1, .string x), (2, .string y)] w (by kernel_rfl) ?_
 refine J.callF 9 67 #[.pointer (some ⟨b, 0, none⟩)] hb67 (by kernel_rfl) (rnext_any b a p c W el ec r _ _ _ S0 hp hj) ?_
 rintro _ w1 ⟨p1, r1, t1, hr1, ht1, hp1, hj1, rfl, S1⟩
 replace S1 : Sep w0 (box b [.slice p1 (W.length - r1.j) (c - r1.j), iv el, iv ec, iv r1.pl, iv r1.pc, iv r1.e] 94 :: rowOf tkE a c 109 4 W :: L0) w1 := S1
 refine J.new S1 7 kvP16_1 109 (by kernel_rfl) ?_
 intro b1 w2 S2
 refine J.stBox S2 0 109 0 (.agg #[iv t1.gKind, .string t1.gText, iv t1.gPlace_Line, iv t1.gPlace_Column]) [iv t1.gKind, .string t1.gText, iv t1.gPlace_Line, iv t1.gPlace_Column] (box b1 [iv t1.gKind, .string t1.gText, iv t1.gPlace_Line, iv t1.gPlace_Column] 109 :: box b [.slice p1 (W.length - r1.j) (c - r1.j), iv el, iv ec, iv r1.pl, iv r1.pc, iv r1.e] 94 :: rowOf tkE a c 109 4 W :: L0) (by kernel_rfl) rfl (by kernel_rfl) (by kernel_rfl) rfl ?_
 intro w3 S3
 refine J.run 5 K69_1 [(10, .pointer (some ⟨b1, 1, none⟩)), (7, .pointer (some ⟨b1, 0, none⟩)), (0, .pointer (some ⟨b, 0, none⟩)), (1, .string x), (2, .string y)] w3 (by kernel_rfl) ?_
 refine J.ok (OK.ldBox S3 0 11 9 1 (.string t1.gText) (by kernel_rfl) rfl (by kernel_rfl)) ?_
 refine J.run 3 K69_2 [(14, .bool (!(t1.gText.toList == x.toList))), (7, .pointer (some ⟨b1, 0, none⟩)), (0, .pointer (some ⟨b, 0, none⟩)), (2, .string y)] w3 (by kernel_rfl) ?_
 rcases Bool.eq_false_or_eq_true (!(t1.gText.toList == x.toList)) with fk1 | fk1
 rotate_left
 ·skip
  refine J.head (.bool false) (congrArg Value.bool fk1) ?_
  refine J.run 11 K69_10 [(23, .pointer (some ⟨b1, 1, none⟩)), (2, .string y)] w3 (by kernel_rfl) ?_
  refine J.ok (OK.ldBox S3 0 24 9 1 (.string t1.gText) (by kernel_rfl) rfl (by kernel_rfl)) ?_
  refine J.run 4 K69_11 [(6, .bool (t1.gText.toList == y.toList))] w3 (by kernel_rfl) ?_
  refine J.ret Tryd.f69 [.bool (t1.gText.toList == y.toList)] Tryd.func69 ⟨by kernel_rfl, trivial⟩ ?_
  refine hR _ _ ?_
  have S9 : Sep w0 (box b [.slice p1 (W.length - r1.j) (c - r1.j), iv el, iv ec, iv r1.pl, iv r1.pc, iv r1.e] 94 :: rowOf tkE a c 109 4 W :: L0) w3 := S3.sub (.cons _ (.cons_cons _ (.cons_cons _ (List.Sublist.refl _))))
  clear S3
  have hx_ := ei_ok (el := el) (ec := ec) (W := W) (r := r) (x := x) (y := y) (by rw [← ht1]; exact or_t (nb fk1))
  exact ⟨_, _, hr1.trans hx_.symm, hp1, hj1, congrArg Value.bool (by rw [← ht1]; rfl), S9⟩
 refine J.head (.bool true) (congrArg Value.bool fk1) ?_
 refine J.run 1 K69_3 [(15, .pointer (some ⟨b1, 1, none⟩)), (14, .bool true), (7, .pointer (some ⟨b1, 0, none⟩)), (0, .pointer (some ⟨b, 0, none⟩)), (2, .string y)] w3 (by kernel_rfl) ?_
 refine J.ok (OK.ldBox S3 0 16 9 1 (.string t1.gText) (by kernel_rfl) rfl (by kernel_rfl)) ?_
 refine J.run 4 K69_4 [(19, .bool (!(t1.gText.toList == y.toList))), (7, .pointer (some ⟨b1, 0, none⟩)), (0, .pointer (some ⟨b, 0, none⟩)), (2, .string y)] w3 (by kernel_rfl) ?_
 rcases Bool.eq_false_or_eq_true (!(t1.gText.toList == y.toList)) with fk2 | fk2
 rotate_left
 ·skip
  refine J.head (.bool false) (congrArg Value.bool fk2) ?_
  refine J.run 5 K69_8 [(23, .pointer (some ⟨b1, 1, none⟩)), (2, .string y)] w3 (by kernel_rfl) ?_
  refine J.ok (OK.ldBox S3 0 24 9 1 (.string t1.gText) (by kernel_rfl) rfl (by kernel_rfl)) ?_
  refine J.run 4 K69_9 [(6, .bool (t1.gText.toList == y.toList))] w3 (by kernel_rfl) ?_
  refine J.ret Tryd.f69 [.bool (t1.gText.toList == y.toList)] Tryd.func69 ⟨by kernel_rfl, trivial⟩ ?_
  refine hR _ _ ?_
  have S8 : Sep w0 (box b [.slice p1 (W.length - r1.j) (c - r1.j), iv el, iv ec, iv r1.pl, iv r1.pc, iv r1.e] 94 :: rowOf tkE a c 109 4 W :: L0) w3 := S3.sub (.cons _ (.cons_cons _ (.cons_cons _ (List.Sublist.refl _))))
  clear S3
  have hx_ := ei_ok (el := el) (ec := ec) (W := W) (r := r) (x := x) (y := y) (by rw [← ht1]; exact or_e (nb fk1) (nb fk2))
  exact ⟨_, _, hr1.trans hx_.symm, hp1, hj1, congrArg Value.bool (by rw [← ht1]; rfl), S8⟩
 refine J.head (.bool true) (congrArg Value.bool fk2) ?_
 refine J.run 3 K69_5 [(20, .pointer (some ⟨b, 0, none⟩)), (7, .pointer (some ⟨b1, 0, none⟩)), (2, .string y)] w3 (by kernel_rfl) ?_
 refine J.ok (OK.ldBox S3 0 21 109 0 (.agg #[iv t1.gKind, .string t1.gText, iv t1.gPlace_Line, iv t1.gPlace_Column]) (by kernel_rfl) rfl (by kernel_rfl)) ?_
 have S4 := S3.front 1 rfl
 clear S3
 refine J.callF 22 71 #[.pointer (some ⟨b, 0, none⟩), .agg #[iv t1.gKind, .string t1.gText, iv t1.gPlace_Line, iv t1.gPlace_Column]] hb71 (by kernel_rfl) (rrefuse_any b (.slice p1 (W.length - r1.j) (c - r1.j)) el ec r1 t1 _ _ _ S4) ?_
 rintro _ w4 ⟨r2, hr2, rfl, S5⟩
 clear S4
 have hj2 : r2.j = r1.j := by rw [hr2]; exact rf_j _ _
 have hp2 : subP a c r2.j p1 := by rw [hj2]; exact hp1
 have hj3 : r2.j ≤ W.length := by rw [hj2]; exact hj1
 rw [← hj2] at S5
 have S6 : Sep w0 (box b1 [iv t1.gKind, .string t1.gText, iv t1.gPlace_Line, iv t1.gPlace_Column] 109 :: box b [.slice p1 (W.length - r2.j) (c - r2.j), iv el, iv ec, iv r2.pl, iv r2.pc, iv r2.e] 94 :: rowOf tkE a c 109 4 W :: L0) w4 := S5.front 1 rfl
 clear S5
 refine J.run 4 K69_6 [(23, .pointer (some ⟨b1, 1, none⟩)), (2, .string y)] w4 (by kernel_rfl) ?_
 refine J.ok (OK.ldBox S6 0 24 9 1 (.string t1.gText) (by kernel_rfl) rfl (by kernel_rfl)) ?_
 refine J.run 4 K69_7 [(6, .bool (t1.gText.toList == y.toList))] w4 (by kernel_rfl) ?_
 refine J.ret Tryd.f69 [.bool (t1.gText.toList == y.toList)] Tryd.func69 ⟨by kernel_rfl, trivial⟩ ?_
 refine hR _ _ ?_
 have S7 : Sep w0 (box b [.slice p1 (W.length - r2.j) (c - r2.j), iv el, iv ec, iv r2.pl, iv r2.pc, iv r2.e] 94 :: rowOf tkE a c 109 4 W :: L0) w4 := S6.sub (.cons _ (.cons_cons _ (.cons_cons _ (List.Sublist.refl _))))
 clear S6
 have hx_ := ei_no (el := el) (ec := ec) (W := W) (r := r) (x := x) (y := y) (by rw [← ht1]; exact or_e (nb fk1) (nb fk2))
 exact ⟨_, _, by rw [hx_, ← hr1, ← ht1]; exact hr2, hp2, hj3, congrArg Value.bool (by rw [← ht1]; rfl), S7⟩

theorem hb70 : HasBody Tryd.prog 70 := fun _ _ => by kernel_rfl
def K70_0 := adv 5 [] (bodyOf Tryd.f70)
def K70_1 := adv 2 [] (popK K70_0)
def K70_2 := adv 3 [] K70_1
def K70_3 := adv 4 [] (popK K70_2)
def K70_4 := adv 6 [true] K70_3
def K70_5 := adv 1 [] (popK (popK (popK (popK K70_4))))
def K70_6 := adv 2 [false] K70_3
def K70_7 := adv 10 [false] K70_1
set_option maxRecDepth 20000 in
set_option maxHeartbeats 20000000 in
theorem rend_any (b : Nat) (a p : Option Addr) (c : Nat) (W : List Tk) (el ec : Int) (r : Rs) (w0 : World) (L0 : List Eng.Claim) (w : World) (S0 : Sep w0 (box b [.slice p (W.length - r.j) (c - r.j), iv el, iv ec, iv r.pl, iv r.pc, iv r.e] 94 :: rowOf tkE a c 109 4 W :: L0) w) (hp : subP a c r.j p) (hj : r.j ≤ W.length) : Ret Tryd.prog 70 #[.pointer (some ⟨b, 0, none⟩)] w (fun v w' => ∃ p' r', r' = enS W r ∧  subP a c r'.j p' ∧ r'.j ≤ W.length ∧ v = .tuple #[] ∧ Sep w0 (box b [.slice p' (W.length - r'.j) (c - r'.j), iv el, iv ec, iv r'.pl, iv r'.pc, iv r'.e] 94 :: rowOf tkE a c 109 4 W :: L0) w') := by
 refine Ret.named fun R hR => ?_
 refine Ret.of_J (N := 23) [(0, .pointer (some ⟨b, 0, none⟩))] Tryd.func70 rfl rfl (Nat.le_of_ble_eq_true (by kernel_rfl)) (by kernel_rfl) ?_
 have hcap := (rowOf_cells (S0.nth 1 rfl)).2.2
 refine J.run 5 K70_0 [(4, .pointer (some ⟨b, 5, none⟩)), (0, .pointer (some ⟨b, 0, none⟩))] w (by kernel_rfl) ?_
 refine J.ok (OK.ldBox S0 0 5 3 5 (iv r.e) (by kernel_rfl) rfl (by kernel_rfl)) ?_
 refine J.run 2 K70_1 [(7, .bool (r.e == 0)), (0, .pointer (some ⟨b, 0, none⟩))] w (by kernel_rfl) ?_
 by_cases fk1 : r.e = 0
 rotate_left
 ·skip
  refine J.head (.bool false) (congrArg Value.bool (beq_eq_false_iff_ne.2 fk1)) ?_
  refine J.run 10 K70_7 [] w (by kernel_rfl) ?_
  refine J.done Tryd.f70 [] Tryd.func70 trivial ?_
  refine hR _ _ ?_
  exact ⟨_, _, (en_no (by omega)).symm, hp, hj, rfl, S0⟩
 refine J.head (.bool true) (congrArg Value.bool (beq_iff_eq.2 fk1)) ?_
 refine J.run 3 K70_2 [(10, .pointer (some ⟨b, 0, none⟩)), (7, .bool true), (0, .pointer (some ⟨b, 0, none⟩))] w (by kernel_rfl) ?_
 refine J.ok (OK.ldBox S0 0 11 90 0 (.slice p (W.length - r.j) (c - r.j)) (by kernel_rfl) rfl (by kernel_rfl)) ?_
 refine J.run 4 K70_3 [(14, .bool (decide (((W.length - r.j : Nat) : Int) > 0))), (0, .pointer (some ⟨b, 0, none⟩))] w (by kernel_rfl) ?_
 by_cases fk2 : ((W.length - r.j : Nat) : Int) > 0
 rotate_left
 ·skip
  refine J.head (.bool false) (congrArg Value.bool (decide_eq_false fk2)) ?_
  refine J.run 2 K70_6 [] w (by kernel_rfl) ?_
  refine J.done Tryd.f70 [] Tryd.func70 trivial ?_
  refine hR _ _ ?_
  exact ⟨_, _, (en_no (by omega)).symm, hp, hj, rfl, S0⟩
 refine J.head (.bool true) (congrArg Value.bool (decide_eq_true fk2)) ?_
 refine J.run 6 K70_4 [(18, .pointer (some ⟨b, 0, none⟩)), (15, .pointer (some ⟨b, 0, none⟩))] w (by kernel_rfl) ?_
 refine J.ok (OK.ldBox S0 0 19 90 0 (.slice p (W.length - r.j) (c - r.j)) (by kernel_rfl) rfl (by kernel_rfl)) ?_
 obtain ⟨p1, hp1, hc1⟩ := (sub_recs (g := tkE) (W := W) (a := a) (c := c) (e := 109) (S0.nth 1 rfl) (fun _ => rfl) hp (by omega)).at tk0 0 (by omega)
 refine J.ok (OK.index 20 90 4 p p1 (W.length - r.j) 0 0 (p1.add (0 * 4)) (by kernel_rfl) (by kernel_rfl) hp1 (by omega) (by omega) rfl) ?_
 refine J.ok (OK.ldCells 21 109 (p1.add (0 * 4)) [iv (((W.drop r.j).getD 0 tk0).gKind), .string (((W.drop r.j).getD 0 tk0).gText), iv (((W.drop r.j).getD 0 tk0).gPlace_Line), iv (((W.drop r.j).getD 0 tk0).gPlace_Column)] (by kernel_rfl) (by kernel_rfl) (by kernel_rfl) hc1) ?_
 refine J.callF 22 71 #[.pointer (some ⟨b, 0, none⟩), .agg #[iv (((W.drop r.j).getD 0 tk0).gKind), .string (((W.drop r.j).getD 0 tk0).gText), iv (((W.drop r.j).getD 0 tk0).gPlace_Line), iv (((W.drop r.j).getD 0 tk0).gPlace_Column)]] hb71 (by kernel_rfl) (rrefuse_any b (.slice p (W.length - r.j) (c - r.j)) el ec r ((W.drop r.j).getD 0 tk0) _ _ _ S0) ?_
 rintro _ w1 ⟨r1, hr1, rfl, S1⟩
 have hj1 : r1.j = r.j := by rw [hr1]; exact rf_j _ _
 have hp2 : subP a c r1.j p := by rw [hj1]; exact hp
 have hj2 : r1.j ≤ W.length := by rw [hj1]; exact hj
 rw [← hj1] at S1
 replace S1 : Sep w0 (box b [.slice p (W.length - r1.j) (c - r1.j), iv el, iv ec, iv r1.pl, iv r1.pc, iv r1.e] 94 :: rowOf tkE a c 109 4 W :: L0) w1 := S1
 refine J.run 1 K70_5 [] w1 (by kernel_rfl) ?_
 refine J.done Tryd.f70 [] Tryd.func70 trivial ?_
 refine hR _ _ ?_
 exact ⟨_, _, by rw [en_yes fk1 (by omega), ← dr_get]; exact hr1, hp2, hj2, rfl, S1⟩

end
end Go.Proofs.YthiklimfffhbaaaDoor

