/- Walks of functions of this seat, printed by a program over the engine. Conditions: as each theorem says. -/
import Derived.Test.YthhdaackhfffiaaDoorZlD11
namespace Go.Proofs.YthhdaackhfffiaaDoor
open Go.Eng Go.RowKit
set_option linter.unusedSimpArgs false
set_option linter.unusedVariables false
theorem hb47 : HasBody Tryd.prog 47 := fun _ _ => by kernel_rfl
theorem cut35_any (s : ByteArray) (w : World) (hs : s.size < 4294967281) (hW : TabW w) : Ret Tryd.prog 47 #[.string s, .string ⟨#[35]⟩] w (fun v w' => v = .tuple #[.string ⟨(beforeL 35 (ls s)).toArray⟩, .string ⟨(Lib.cut (ls s) [35]).2.1.toArray⟩, .bool (Lib.cut (ls s) [35]).2.2] ∧ Sep w [] w') := by
  obtain ⟨m, hm⟩ := hW.2.2.2
  refine Calls.mono (Tryd.strings_Cut s ⟨#[35]⟩ m w hs hm) fun e w' ⟨he, n, hw⟩ => ?_
  subst he hw
  exact ⟨_, by rw [← cut_before] <;> rfl, rfl, .of_below (below_drewN (Below.refl _ _) n)⟩
theorem hb34 : HasBody Tryd.prog 34 := fun _ _ => by kernel_rfl
theorem split10_any (s : ByteArray) (w : World) (hs : s.size < 4294967281) (hW : TabW w) : Ret Tryd.prog 34 #[.string s, .string ⟨#[10]⟩] w (fun v w' => ∃ b, v = .slice (some ⟨b, 0, none⟩) (piecesB 10 s).length (piecesB 10 s).length ∧ Sep w [box b ((piecesB 10 s).map Value.string) 9] w') := by
  obtain ⟨m, hm⟩ := hW.2.2.2
  refine Calls.mono (Tryd.strings_Split s ⟨#[10]⟩ m w hs hm (Nat.le_refl 1)) fun e w' ⟨he, hw⟩ => ?_
  subst he hw
  rw [splitB_len, splitB_pieces]
  exact ⟨_, rfl, _, rfl, Sep.of_alloc _ _ _⟩
theorem hb35 : HasBody Tryd.prog 35 := fun _ _ => by kernel_rfl
noncomputable def K35_0 : List Item := adv 7 [] (bodyOf Tryd.f35)
noncomputable def K35_1 : List Item := adv 5 [] (popK K35_0)
noncomputable def K35_2 : List Item := adv 12 [] K35_1
noncomputable def K35_3 : List Item := adv 8 [] K35_2
noncomputable def K35_4 : List Item := adv 11 [true] K35_3
noncomputable def K35_5 : List Item := adv 8 [] K35_4
noncomputable def K35_6 : List Item := adv 2 [] K35_5
noncomputable def K35_7 : List Item := adv 3 [] (popK K35_6)
noncomputable def K35_8 : List Item := adv 9 [false] K35_7
noncomputable def K35_9 : List Item := adv 6 [true] K35_8
noncomputable def K35_10 : List Item := adv 3 [] (popK K35_9)
noncomputable def K35_11 : List Item := adv 2 [] K35_10
noncomputable def K35_12 : List Item := adv 5 [] (popK (popK K35_11))
noncomputable def K35_13 : List Item := adv 5 [false] K35_8
noncomputable def K35_14 : List Item := adv 6 [true] K35_7
noncomputable def K35_15 : List Item := adv 15 [false] K35_5
noncomputable def K35_16 : List Item := adv 6 [true] K35_15
noncomputable def K35_17 : List Item := adv 3 [] (popK K35_16)
noncomputable def K35_18 : List Item := adv 2 [] K35_17
noncomputable def K35_19 : List Item := adv 5 [] (popK (popK K35_18))
noncomputable def K35_20 : List Item := adv 5 [false] K35_15
noncomputable def K35_21 : List Item := adv 7 [false] K35_3
set_option maxRecDepth 20000 in
set_option maxHeartbeats 20000000 in
theorem lex_any (line : ByteArray) (number : Int) (w : World) (hsz : line.size ≤ 1000000) (hnu : 0 ≤ number ∧ number ≤ 1099511627776) (hW : TabW w) : Ret Tryd.prog 35 #[.string line, iv number] w (fun v w' => ∃ a cap, v = .slice a (lexW (beforeL 35 (ls line)) [] number 1).length cap ∧ Sep w [rowOf tkE a cap 78 4 (lexW (beforeL 35 (ls line)) [] number 1)] w') := by
 have S0 := Sep.refl w
 refine Ret.named fun R hR => ?_
 refine Ret.of_J (N := 49) [(0, .string line), (1, iv number)] Tryd.func35 rfl rfl (Nat.le_of_ble_eq_true (by kernel_rfl)) (by kernel_rfl) ?_
 have hbl := before_len 35 (ls line)
 have hll := ls_length line
 refine J.run 7 K35_0 [(9, .string line), (1, iv number)] w (by kernel_rfl) ?_
 refine J.callF 10 47 #[.string line, .string ⟨#[35]⟩] hb47 (by kernel_rfl) (cut35_any line _ (by omega) (tabW_sep hW S0)) ?_
 rintro _ w1 ⟨rfl, T1⟩
 have S1 : Sep w [] w1 := S0.trans T1
 clear T1
 refine J.run 5 K35_1 [(0, .string (⟨(beforeL 35 (ls line)).toArray⟩ : ByteArray)), (1, iv number)] w1 (by kernel_rfl) ?_
 obtain ⟨x, hx⟩ : ∃ x : ByteArray, x = (⟨(beforeL 35 (ls line)).toArray⟩ : ByteArray) := ⟨_, rfl⟩
 refine J.head (.string x) (congrArg Value.string hx.symm) ?_
 have hx1 : ls x = beforeL 35 (ls line) := by rw [hx]
 have hxl := ls_length x
 rw [hx1] at hxl
 refine J.run 12 K35_2 [(6, iv 0), (5, .slice none 0 0), (0, .string x), (1, iv number)] w1 (by kernel_rfl) ?_
 have S2 : Sep w [rowOf tkE none 0 78 4 ([])] w1 := S1.nilRow 78 4
 have L35_1 : ∀ (mm_ : Nat) (ra : Option Addr) (rc : Nat) (out : List Tk) (i : Int) (w2 : World), (0 ≤ i) → (i ≤ (x.size : Int) + 1) → (((out).length : Int) ≤ i) → (lexW (ls x) [] number 1 = out ++ lexW ((ls x).drop (i).toNat) [] number (i + 1)) → Sep w [rowOf tkE ra rc 78 4 out] w2 → ((x.size : Int) + 1 - i).toNat = mm_ → J Tryd.prog 35 49 R K35_2 [(6, iv i), (5, .slice ra out.length rc), (0, .string x), (1, iv number)] w2 := by
  intro mm1
  induction mm1 using Nat.strongRecOn with
  | _ mm1 ih1 =>
  intro ra rc out i w2 h0 h1 hol hQ S3 hm1
  refine J.run 8 K35_3 [(17, .bool (decide (i < (x.size : Int)))), (6, iv i), (5, .slice ra out.length rc), (0, .string x), (1, iv number)] w2 (by kernel_rfl) ?_
  by_cases fk1 : i < (x.size : Int)
  ·skip
   refine J.head (.bool true) (congrArg Value.bool (decide_eq_true fk1)) ?_
   refine J.run 11 K35_4 [(7, iv i), (6, iv i), (5, .slice ra out.length rc), (0, .string x), (1, iv number)] w2 (by kernel_rfl) ?_
   have L35_2 : ∀ (mm_ : Nat) (k : Int) (w3 : World), (i ≤ k) → (k ≤ (x.size : Int)) → (lexW (ls x) [] number 1 = out ++ lexW ((ls x).drop (k).toNat) (ls (x.extract (i).toNat (k).toNat)) number (k + 1)) → Sep w [rowOf tkE ra rc 78 4 out] w3 → ((x.size : Int) - k).toNat = mm_ → J Tryd.prog 35 49 R K35_4 [(7, iv k), (6, iv i), (5, .slice ra out.length rc), (0, .string x), (1, iv number)] w3 := by
    intro mm2
    induction mm2 using Nat.strongRecOn with
    | _ mm2 ih2 =>
    intro k w3 k0 k1 hK S4 hm2
    refine J.run 8 K35_5 [(23, .bool (decide (k < (x.size : Int)))), (7, iv k), (6, iv i), (5, .slice ra out.length rc), (0, .string x), (1, iv number)] w3 (by kernel_rfl) ?_
    by_cases fk2 : k < (x.size : Int)
    ·skip
     refine J.head (.bool true) (congrArg Value.bool (decide_eq_true fk2)) ?_
     refine J.run 2 K35_6 [(25, iv k), (24, .string x), (23, .bool true), (7, iv k), (6, iv i), (5, .slice ra out.length rc), (0, .string x), (1, iv number)] w3 (by kernel_rfl) ?_
     have := byteAt_bounds x (k).toNat
     refine J.ok (OK.byte 26 9 x k (byteAt x (k).toNat) (by kernel_rfl) (by kernel_rfl) (by omega) (by omega) (rfl)) ?_
     refine J.run 3 K35_7 [(28, .bool ((byteAt x (k).toNat) != 32)), (7, iv k), (6, iv i), (5, .slice ra out.length rc), (0, .string x), (1, iv number)] w3 (by kernel_rfl) ?_
     by_cases fk3 : (byteAt x (k).toNat) = 32
     ·skip
      refine J.head (.bool false) (congrArg Value.bool (bne_eq_false_iff_eq.2 fk3)) ?_
      refine J.run 9 K35_8 [(33, .bool (decide (k > i))), (7, iv k), (6, iv i), (5, .slice ra out.length rc), (0, .string x), (1, iv number)] w3 (by kernel_rfl) ?_
      by_cases fk4 : k > i
      ·skip
       refine J.head (.bool true) (congrArg Value.bool (decide_eq_true fk4)) ?_
       refine J.run 6 K35_9 [(37, iv k), (36, iv i), (35, .string x), (34, .slice ra out.length rc), (7, iv k), (6, iv i), (0, .string x), (1, iv number)] w3 (by kernel_rfl) ?_
       refine J.ok (OK.sliceT 38 9 x (some (iv i)) (some (iv k)) ((i).toNat) ((k).toNat) (by kernel_rfl) (by kernel_rfl) (.inr ⟨_, _, rfl, by omega⟩) (.inr ⟨_, _, rfl, by omega⟩) (by first | omega | (simp; omega)) (by first | omega | (simp; omega))) ?_
       have := size_extract x (i := (i).toNat) (j := (k).toNat) (by first | omega | (simp; omega))
       refine J.run 3 K35_10 [(41, iv (IntKind.wrap .i64 (i + 1))), (39, iv number), (38, .string (x.extract ((i).toNat) ((k).toNat))), (34, .slice ra out.length rc), (7, iv k), (0, .string x), (1, iv number)] w3 (by kernel_rfl) ?_
       refine J.head (iv (i + 1)) (congrArg (Value.int .i64) (IntWalk.i64_in _ (by omega))) ?_
       refine J.run 2 K35_11 [(43, .agg #[iv 0, .string (x.extract ((i).toNat) ((k).toNat)), iv number, iv (i + 1)]), (34, .slice ra out.length rc), (7, iv k), (0, .string x), (1, iv number)] w3 (by kernel_rfl) ?_
       refine J.newSlice S4 44 1 [iv 0, .string (x.extract ((i).toNat) ((k).toNat)), iv number, iv (i + 1)] 78 (by kernel_rfl) ?_
       intro b1 w4 S5
       refine J.append tkE S5 1 out (⟨0, (x.extract ((i).toNat) ((k).toNat)), number, i + 1⟩ : Tk) 45 71 (.agg #[iv 0, .string ByteArray.empty, iv 0, iv 0]) 40 ⟨b1, 0, none⟩ 1 rfl (by kernel_rfl) (by kernel_rfl) (by kernel_rfl) (by kernel_rfl) (by decide) (box_cells (S5.nth 0 rfl)) (by kernel_rfl) (by kernel_rfl) (⟨by omega, by omega⟩) ?_
       intro ra1 rc1 w5 S6
       replace S6 : Sep w [box b1 [iv 0, .string (x.extract ((i).toNat) ((k).toNat)), iv number, iv (i + 1)] 78, rowOf tkE ra1 rc1 78 4 (out ++ [(⟨0, (x.extract ((i).toNat) ((k).toNat)), number, i + 1⟩ : Tk)])] w5 := S6
       have S7 : Sep w [rowOf tkE ra1 rc1 78 4 (out ++ [(⟨0, (x.extract ((i).toNat) ((k).toNat)), number, i + 1⟩ : Tk)])] w5 := S6.erase 0
       clear S6
       refine J.run 5 K35_12 [(47, iv (IntKind.wrap .i64 (k + 1))), (5, .slice ra1 ((out ++ [(⟨0, (x.extract ((i).toNat) ((k).toNat)), number, i + 1⟩ : Tk)]).length) rc1), (0, .string x), (1, iv number)] w5 (by kernel_rfl) ?_
       refine J.head (iv (k + 1)) (congrArg (Value.int .i64) (IntWalk.i64_in _ (by omega))) ?_
       refine J.run 4 K35_2 [(6, iv (k + 1)), (5, .slice ra1 ((out ++ [(⟨0, (x.extract ((i).toNat) ((k).toNat)), number, i + 1⟩ : Tk)]).length) rc1), (0, .string x), (1, iv number)] w5 (by kernel_rfl) ?_
       refine J.run 0 K35_2 [(6, iv (k + 1)), (5, .slice ra1 ((out ++ [(⟨0, (x.extract ((i).toNat) ((k).toNat)), number, i + 1⟩ : Tk)]).length) rc1), (0, .string x), (1, iv number)] w5 (by kernel_rfl) ?_
       exact ih1 _ (show ((x.size : Int) + 1 - (k + 1)).toNat < mm1 from by omega) ra1 rc1 (out ++ [(⟨0, (x.extract ((i).toNat) ((k).toNat)), number, i + 1⟩ : Tk)]) (k + 1) w5 (by omega) (by omega) (by (try rw [List.length_append, List.length_singleton]); omega) (lx_word hK h0 (by omega) (by omega) (fun h_ => by omega)) S7 rfl
      ·skip
       refine J.head (.bool false) (congrArg Value.bool (decide_eq_false fk4)) ?_
       refine J.run 5 K35_13 [(47, iv (IntKind.wrap .i64 (k + 1))), (5, .slice ra out.length rc), (0, .string x), (1, iv number)] w3 (by kernel_rfl) ?_
       refine J.head (iv (k + 1)) (congrArg (Value.int .i64) (IntWalk.i64_in _ (by omega))) ?_
       refine J.run 4 K35_2 [(6, iv (k + 1)), (5, .slice ra out.length rc), (0, .string x), (1, iv number)] w3 (by kernel_rfl) ?_
       refine J.run 0 K35_2 [(6, iv (k + 1)), (5, .slice ra out.length rc), (0, .string x), (1, iv number)] w3 (by kernel_rfl) ?_
       exact ih1 _ (show ((x.size : Int) + 1 - (k + 1)).toNat < mm1 from by omega) ra rc out (k + 1) w3 (by omega) (by omega) (by (try rw [List.length_append, List.length_singleton]); omega) (lx_skip hK h0 (by omega) (by omega) (fun h_ => by omega)) S4 rfl
     ·skip
      refine J.head (.bool true) (congrArg Value.bool (bne_iff_ne.2 fk3)) ?_
      refine J.run 6 K35_14 [(30, iv (IntKind.wrap .i64 (k + 1))), (6, iv i), (5, .slice ra out.length rc), (0, .string x), (1, iv number)] w3 (by kernel_rfl) ?_
      refine J.head (iv (k + 1)) (congrArg (Value.int .i64) (IntWalk.i64_in _ (by omega))) ?_
      refine J.run 4 K35_4 [(7, iv (k + 1)), (6, iv i), (5, .slice ra out.length rc), (0, .string x), (1, iv number)] w3 (by kernel_rfl) ?_
      refine J.run 0 K35_4 [(7, iv (k + 1)), (6, iv i), (5, .slice ra out.length rc), (0, .string x), (1, iv number)] w3 (by kernel_rfl) ?_
      exact ih2 _ (show ((x.size : Int) - (k + 1)).toNat < mm2 from by omega) (k + 1) w3 (by omega) (by omega) (hK.trans (by rw [lx_in h0 (by omega) (by omega) (by omega)])) S4 rfl
    ·skip
     refine J.head (.bool false) (congrArg Value.bool (decide_eq_false fk2)) ?_
     refine J.run 15 K35_15 [(33, .bool (decide (k > i))), (7, iv k), (6, iv i), (5, .slice ra out.length rc), (0, .string x), (1, iv number)] w3 (by kernel_rfl) ?_
     by_cases fk5 : k > i
     ·skip
      refine J.head (.bool true) (congrArg Value.bool (decide_eq_true fk5)) ?_
      refine J.run 6 K35_16 [(37, iv k), (36, iv i), (35, .string x), (34, .slice ra out.length rc), (7, iv k), (6, iv i), (0, .string x), (1, iv number)] w3 (by kernel_rfl) ?_
      refine J.ok (OK.sliceT 38 9 x (some (iv i)) (some (iv k)) ((i).toNat) ((k).toNat) (by kernel_rfl) (by kernel_rfl) (.inr ⟨_, _, rfl, by omega⟩) (.inr ⟨_, _, rfl, by omega⟩) (by first | omega | (simp; omega)) (by first | omega | (simp; omega))) ?_
      have := size_extract x (i := (i).toNat) (j := (k).toNat) (by first | omega | (simp; omega))
      refine J.run 3 K35_17 [(41, iv (IntKind.wrap .i64 (i + 1))), (39, iv number), (38, .string (x.extract ((i).toNat) ((k).toNat))), (34, .slice ra out.length rc), (7, iv k), (0, .string x), (1, iv number)] w3 (by kernel_rfl) ?_
      refine J.head (iv (i + 1)) (congrArg (Value.int .i64) (IntWalk.i64_in _ (by omega))) ?_
      refine J.run 2 K35_18 [(43, .agg #[iv 0, .string (x.extract ((i).toNat) ((k).toNat)), iv number, iv (i + 1)]), (34, .slice ra out.length rc), (7, iv k), (0, .string x), (1, iv number)] w3 (by kernel_rfl) ?_
      refine J.newSlice S4 44 1 [iv 0, .string (x.extract ((i).toNat) ((k).toNat)), iv number, iv (i + 1)] 78 (by kernel_rfl) ?_
      intro b2 w6 S8
      refine J.append tkE S8 1 out (⟨0, (x.extract ((i).toNat) ((k).toNat)), number, i + 1⟩ : Tk) 45 71 (.agg #[iv 0, .string ByteArray.empty, iv 0, iv 0]) 40 ⟨b2, 0, none⟩ 1 rfl (by kernel_rfl) (by kernel_rfl) (by kernel_rfl) (by kernel_rfl) (by decide) (box_cells (S8.nth 0 rfl)) (by kernel_rfl) (by kernel_rfl) (⟨by omega, by omega⟩) ?_
      intro ra2 rc2 w7 S9
      replace S9 : Sep w [box b2 [iv 0, .string (x.extract ((i).toNat) ((k).toNat)), iv number, iv (i + 1)] 78, rowOf tkE ra2 rc2 78 4 (out ++ [(⟨0, (x.extract ((i).toNat) ((k).toNat)), number, i + 1⟩ : Tk)])] w7 := S9
      have S10 : Sep w [rowOf tkE ra2 rc2 78 4 (out ++ [(⟨0, (x.extract ((i).toNat) ((k).toNat)), number, i + 1⟩ : Tk)])] w7 := S9.erase 0
      clear S9
      refine J.run 5 K35_19 [(47, iv (IntKind.wrap .i64 (k + 1))), (5, .slice ra2 ((out ++ [(⟨0, (x.extract ((i).toNat) ((k).toNat)), number, i + 1⟩ : Tk)]).length) rc2), (0, .string x), (1, iv number)] w7 (by kernel_rfl) ?_
      refine J.head (iv (k + 1)) (congrArg (Value.int .i64) (IntWalk.i64_in _ (by omega))) ?_
      refine J.run 4 K35_2 [(6, iv (k + 1)), (5, .slice ra2 ((out ++ [(⟨0, (x.extract ((i).toNat) ((k).toNat)), number, i + 1⟩ : Tk)]).length) rc2), (0, .string x), (1, iv number)] w7 (by kernel_rfl) ?_
      refine J.run 0 K35_2 [(6, iv (k + 1)), (5, .slice ra2 ((out ++ [(⟨0, (x.extract ((i).toNat) ((k).toNat)), number, i + 1⟩ : Tk)]).length) rc2), (0, .string x), (1, iv number)] w7 (by kernel_rfl) ?_
      exact ih1 _ (show ((x.size : Int) + 1 - (k + 1)).toNat < mm1 from by omega) ra2 rc2 (out ++ [(⟨0, (x.extract ((i).toNat) ((k).toNat)), number, i + 1⟩ : Tk)]) (k + 1) w7 (by omega) (by omega) (by (try rw [List.length_append, List.length_singleton]); omega) (lx_word hK h0 (by omega) (by omega) (fun h_ => by omega)) S10 rfl
     ·skip
      refine J.head (.bool false) (congrArg Value.bool (decide_eq_false fk5)) ?_
      refine J.run 5 K35_20 [(47, iv (IntKind.wrap .i64 (k + 1))), (5, .slice ra out.length rc), (0, .string x), (1, iv number)] w3 (by kernel_rfl) ?_
      refine J.head (iv (k + 1)) (congrArg (Value.int .i64) (IntWalk.i64_in _ (by omega))) ?_
      refine J.run 4 K35_2 [(6, iv (k + 1)), (5, .slice ra out.length rc), (0, .string x), (1, iv number)] w3 (by kernel_rfl) ?_
      refine J.run 0 K35_2 [(6, iv (k + 1)), (5, .slice ra out.length rc), (0, .string x), (1, iv number)] w3 (by kernel_rfl) ?_
      exact ih1 _ (show ((x.size : Int) + 1 - (k + 1)).toNat < mm1 from by omega) ra rc out (k + 1) w3 (by omega) (by omega) (by (try rw [List.length_append, List.length_singleton]); omega) (lx_skip hK h0 (by omega) (by omega) (fun h_ => by omega)) S4 rfl
   exact L35_2 _ i w2 (by omega) (by omega) (by rw [← lx_start]; exact hQ) S3 rfl
  ·skip
   refine J.head (.bool false) (congrArg Value.bool (decide_eq_false fk1)) ?_
   refine J.run 7 K35_21 [(4, .slice ra out.length rc)] w2 (by kernel_rfl) ?_
   refine J.ret Tryd.f35 [.slice ra out.length rc] Tryd.func35 ⟨by kernel_rfl, trivial⟩ ?_
   refine hR _ _ ?_
   have e_ : out = lexW (beforeL 35 (ls line)) [] number 1 := by rw [← hx1]; exact lx_done hQ (by omega)
   subst e_
   exact ⟨_, _, rfl, S3.pick 0 rfl⟩
 exact L35_1 _ none 0 ([]) 0 w1 (by omega) (by omega) (by simp) (lx_first x number) S2 rfl

theorem nx_bad {L : List Tk} {e a b : Int} (h : e ≠ 0) : nxE L e a = e ∧ nxA L e a = a ∧ nxB L e a b = b ∧ nxT L e a = ByteArray.empty := ⟨if_neg h, if_neg h, if_neg h, if_neg h⟩
theorem nx_end {L : List Tk} {e a b : Int} (h : e = 0) (h2 : a = (L.length : Int)) : nxE L e a = 4 ∧ nxA L e a = a ∧ nxB L e a b = a - 1 ∧ nxT L e a = ByteArray.empty := ⟨(if_pos h).trans (if_pos h2), (if_pos h).trans (if_pos h2), (if_pos h).trans (if_pos h2), (if_pos h).trans (if_pos h2)⟩
theorem nx_ok {L : List Tk} {e a b : Int} (h : e = 0) (h2 : a ≠ (L.length : Int)) : nxE L e a = e ∧ nxA L e a = a + 1 ∧ nxB L e a b = b ∧ nxT L e a = (L.getD a.toNat tk0).gText := ⟨((if_pos h).trans (if_neg h2)).trans h.symm, (if_pos h).trans (if_neg h2), (if_pos h).trans (if_neg h2), (if_pos h).trans (if_neg h2)⟩
theorem hb48 : HasBody Tryd.prog 48 := fun _ _ => by kernel_rfl
noncomputable def K48_0 : List Item := adv 10 [] (bodyOf Tryd.f48)
noncomputable def K48_1 : List Item := adv 2 [] (popK K48_0)
noncomputable def K48_2 : List Item := adv 4 [false] K48_1
noncomputable def K48_3 : List Item := adv 8 [true] (rRest K48_2)
noncomputable def K48_4 : List Item := adv 1 [] (popK K48_3)
noncomputable def K48_5 : List Item := adv 2 [] K48_4
noncomputable def K48_6 : List Item := adv 2 [] (popK K48_5)
noncomputable def K48_7 : List Item := adv 5 [] (popK K48_6)
noncomputable def K48_8 : List Item := adv 7 [false] (rRest K48_2)
noncomputable def K48_9 : List Item := adv 1 [] (popK K48_8)
noncomputable def K48_10 : List Item := adv 2 [] K48_9
noncomputable def K48_11 : List Item := adv 2 [] (popK K48_10)
noncomputable def K48_12 : List Item := adv 5 [true] K48_1
set_option maxRecDepth 20000 in
set_option maxHeartbeats 20000000 in
theorem next_any (b : Nat) (a : Option Addr) (c : Nat) (L : List Tk) (e at_ bad : Int) (w0 : World) (L0 : List Eng.Claim) (w : World) (S0 : Sep w0 (box b [.slice a L.length c, iv e, iv at_, iv bad] 75 :: rowOf tkE a c 78 4 L :: L0) w) (ha : 0 ≤ at_ ∧ at_ ≤ (L.length : Int)) (hL : L.length ≤ 1099511627776) : Ret Tryd.prog 48 #[.pointer (some ⟨b, 0, none⟩)] w (fun v w' => v = .string (nxT L e at_) ∧ Sep w0 (box b [.slice a L.length c, iv (nxE L e at_), iv (nxA L e at_), iv (nxB L e at_ bad)] 75 :: rowOf tkE a c 78 4 L :: L0) w') := by
 refine Ret.named fun R hR => ?_
 refine Ret.of_J (N := 48) [(0, .pointer (some ⟨b, 0, none⟩))] Tryd.func48 rfl rfl (Nat.le_of_ble_eq_true (by kernel_rfl)) (by kernel_rfl) ?_
 refine J.run 10 K48_0 [(5, .pointer (some ⟨b, 1, none⟩)), (0, .pointer (some ⟨b, 0, none⟩))] w (by kernel_rfl) ?_
 refine J.ok (OK.ldBox S0 0 6 28 1 (iv e) (by kernel_rfl) rfl (by kernel_rfl)) ?_
 refine J.run 2 K48_1 [(7, .bool (e != 0)), (0, .pointer (some ⟨b, 0, none⟩))] w (by kernel_rfl) ?_
 by_cases fk1 : e = 0
 ·skip
  refine J.head (.bool false) (congrArg Value.bool (bne_eq_false_iff_eq.2 fk1)) ?_
  refine J.run 4 K48_2 [(0, .pointer (some ⟨b, 0, none⟩))] w (by kernel_rfl) ?_
  refine J.drawStill S0 10 Tryd.mixed (by kernel_rfl) (by kernel_rfl) (by kernel_rfl) ?_
  intro w1 S1
  refine SL.ok (by decide) (OK.run 8 (.pointer (some ⟨b, 0, none⟩)) (by kernel_rfl)) ?_
  refine SL.ok (by decide) (OK.run 9 (.pointer (some ⟨b, 0, none⟩)) (by kernel_rfl)) ?_
  refine SL.ok (by decide) (OK.run 10 (.pointer (some ⟨b, 2, none⟩)) (by kernel_rfl)) ?_
  refine SL.ok (by decide) (OK.ldBox S1 0 11 3 2 (iv at_) (by kernel_rfl) rfl (by kernel_rfl)) ?_
  refine SL.ok (by decide) (OK.run 12 (.pointer (some ⟨b, 0, none⟩)) (by kernel_rfl)) ?_
  refine SL.ok (by decide) (OK.run 13 (.pointer (some ⟨b, 0, none⟩)) (by kernel_rfl)) ?_
  refine SL.ok (by decide) (OK.run 14 (.pointer (some ⟨b, 0, none⟩)) (by kernel_rfl)) ?_
  refine SL.ok (by decide) (OK.ldBox S1 0 15 71 0 (.slice a L.length c) (by kernel_rfl) rfl (by kernel_rfl)) ?_
  refine SL.ok (by decide) (OK.run 16 (iv (L.length : Int)) (by kernel_rfl)) ?_
  refine SL.ok (by decide) (OK.run 17 (.bool (at_ == (L.length : Int))) (by kernel_rfl)) ?_
  refine SL.done ?_
  refine TL.done (by kernel_rfl) ?_
  refine J.run 0 (rRest K48_2) [(17, .bool (at_ == (L.length : Int))), (0, .pointer (some ⟨b, 0, none⟩))] w1 (by kernel_rfl) ?_
  by_cases fk2 : at_ = (L.length : Int)
  ·skip
   refine J.head (.bool true) (congrArg Value.bool (beq_iff_eq.2 fk2)) ?_
   refine J.run 8 K48_3 [(22, .pointer (some ⟨b, 2, none⟩)), (19, .pointer (some ⟨b, 0, none⟩)), (18, .pointer (some ⟨b, 0, none⟩))] w1 (by kernel_rfl) ?_
   refine J.ok (OK.ldBox S1 0 23 3 2 (iv at_) (by kernel_rfl) rfl (by kernel_rfl)) ?_
   refine J.run 1 K48_4 [(24, iv (IntKind.wrap .i64 (at_ - 1))), (19, .pointer (some ⟨b, 0, none⟩)), (18, .pointer (some ⟨b, 0, none⟩))] w1 (by kernel_rfl) ?_
   refine J.head (iv (at_ - 1)) (congrArg (Value.int .i64) (IntWalk.i64_in _ (by omega))) ?_
   refine J.run 2 K48_5 [(26, .pointer (some ⟨b, 3, none⟩)), (24, iv (at_ - 1)), (19, .pointer (some ⟨b, 0, none⟩))] w1 (by kernel_rfl) ?_
   refine J.stBox S1 0 3 3 (iv (at_ - 1)) [.slice a L.length c, iv e, iv at_, iv (at_ - 1)] (box b [.slice a L.length c, iv e, iv at_, iv (at_ - 1)] 75 :: rowOf tkE a c 78 4 L :: L0) (by kernel_rfl) rfl (by kernel_rfl) (by kernel_rfl) rfl ?_
   intro w2 S2
   refine J.run 2 K48_6 [(28, .pointer (some ⟨b, 1, none⟩))] w2 (by kernel_rfl) ?_
   refine J.stBox S2 0 28 1 (iv 4) [.slice a L.length c, iv 4, iv at_, iv (at_ - 1)] (box b [.slice a L.length c, iv 4, iv at_, iv (at_ - 1)] 75 :: rowOf tkE a c 78 4 L :: L0) (by kernel_rfl) rfl (by kernel_rfl) (by kernel_rfl) rfl ?_
   intro w3 S3
   refine J.run 5 K48_7 [(2, .string ByteArray.empty)] w3 (by kernel_rfl) ?_
   refine J.ret Tryd.f48 [.string ByteArray.empty] Tryd.func48 ⟨by kernel_rfl, trivial⟩ ?_
   refine hR _ _ ?_
   obtain ⟨e1, e2, e3, e4⟩ := nx_end (by omega) (by omega) (L := L) (e := e) (a := at_) (b := bad)
   exact ⟨by rw [e4]; rfl, by rw [e1, e2, e3]; exact S3⟩
  ·skip
   refine J.head (.bool false) (congrArg Value.bool (beq_eq_false_iff_ne.2 fk2)) ?_
   refine J.run 7 K48_8 [(31, .pointer (some ⟨b, 2, none⟩)), (29, .pointer (some ⟨b, 0, none⟩)), (0, .pointer (some ⟨b, 0, none⟩))] w1 (by kernel_rfl) ?_
   refine J.ok (OK.ldBox S1 0 32 3 2 (iv at_) (by kernel_rfl) rfl (by kernel_rfl)) ?_
   refine J.run 1 K48_9 [(33, iv (IntKind.wrap .i64 (at_ + 1))), (29, .pointer (some ⟨b, 0, none⟩)), (0, .pointer (some ⟨b, 0, none⟩))] w1 (by kernel_rfl) ?_
   refine J.head (iv (at_ + 1)) (congrArg (Value.int .i64) (IntWalk.i64_in _ (by omega))) ?_
   refine J.run 2 K48_10 [(35, .pointer (some ⟨b, 2, none⟩)), (33, iv (at_ + 1)), (0, .pointer (some ⟨b, 0, none⟩))] w1 (by kernel_rfl) ?_
   refine J.stBox S1 0 3 2 (iv (at_ + 1)) [.slice a L.length c, iv e, iv (at_ + 1), iv bad] (box b [.slice a L.length c, iv e, iv (at_ + 1), iv bad] 75 :: rowOf tkE a c 78 4 L :: L0) (by kernel_rfl) rfl (by kernel_rfl) (by kernel_rfl) rfl ?_
   intro w4 S4
   refine J.run 2 K48_11 [(0, .pointer (some ⟨b, 0, none⟩))] w4 (by kernel_rfl) ?_
   obtain ⟨p1, hp1, hc1⟩ := (rowOf_recs (S4.nth 1 rfl) _ rfl (fun _ => rfl) (by decide)).at tk0 ((at_ + 1) - 1).toNat (by omega)
   refine J.drawStill S4 13 Tryd.mixed (by kernel_rfl) (by kernel_rfl) (by kernel_rfl) ?_
   intro w5 S5
   refine SL.ok (by decide) (OK.run 36 (.pointer (some ⟨b, 0, none⟩)) (by kernel_rfl)) ?_
   refine SL.ok (by decide) (OK.run 37 (.pointer (some ⟨b, 0, none⟩)) (by kernel_rfl)) ?_
   refine SL.ok (by decide) (OK.run 38 (.pointer (some ⟨b, 0, none⟩)) (by kernel_rfl)) ?_
   refine SL.ok (by decide) (OK.ldBox S5 0 39 71 0 (.slice a L.length c) (by kernel_rfl) rfl (by kernel_rfl)) ?_
   refine SL.ok (by decide) (OK.run 40 (.pointer (some ⟨b, 0, none⟩)) (by kernel_rfl)) ?_
   refine SL.ok (by decide) (OK.run 41 (.pointer (some ⟨b, 0, none⟩)) (by kernel_rfl)) ?_
   refine SL.ok (by decide) (OK.run 42 (.pointer (some ⟨b, 2, none⟩)) (by kernel_rfl)) ?_
   refine SL.ok (by decide) (OK.ldBox S5 0 43 3 2 (iv (at_ + 1)) (by kernel_rfl) rfl (by kernel_rfl)) ?_
   refine SL.ok (by decide) (OK.run 44 (iv (IntKind.wrap .i64 ((at_ + 1) - 1))) (by kernel_rfl)) ?_
   refine SL.head (iv ((at_ + 1) - 1)) (congrArg (Value.int .i64) (IntWalk.i64_in _ (by omega))) ?_
   obtain ⟨p2, hp2, hc2⟩ := (rowOf_recs (S5.nth 1 rfl) _ rfl (fun _ => rfl) (by decide)).at tk0 ((at_ + 1) - 1).toNat (by omega)
   refine SL.ok (by decide) (OK.index 45 71 4 a p2 L.length ((at_ + 1) - 1).toNat ((at_ + 1) - 1) (p2.add (((at_ + 1) - 1).toNat * 4)) (by kernel_rfl) (by kernel_rfl) hp2 (by omega) (by omega) rfl) ?_
   refine SL.ok (by decide) (OK.run 46 (.pointer (some ((p2.add (((at_ + 1) - 1).toNat * 4)).add 1))) (by kernel_rfl)) ?_
   refine SL.ok (by decide) (OK.ldCell 47 9 ((p2.add (((at_ + 1) - 1).toNat * 4)).add 1) (.string ((L.getD ((at_ + 1) - 1).toNat tk0).gText)) (by kernel_rfl) (by kernel_rfl) (hc2 1 _ rfl)) ?_
   refine SL.ok (by decide) (OK.run 2 (.string ((L.getD ((at_ + 1) - 1).toNat tk0).gText)) (by kernel_rfl)) ?_
   refine SL.done ?_
   refine TL.done (by kernel_rfl) ?_
   refine J.run 0 (rRest K48_11) [(2, .string ((L.getD ((at_ + 1) - 1).toNat tk0).gText))] w5 (by kernel_rfl) ?_
   refine J.ret Tryd.f48 [.string ((L.getD ((at_ + 1) - 1).toNat tk0).gText)] Tryd.func48 ⟨by kernel_rfl, trivial⟩ ?_
   refine hR _ _ ?_
   obtain ⟨e1, e2, e3, e4⟩ := nx_ok (by omega) (by omega) (L := L) (e := e) (a := at_) (b := bad)
   exact ⟨by rw [e4]; rw [show (at_ + 1 - 1).toNat = at_.toNat by omega]; rfl, by rw [e1, e2, e3]; exact S5⟩
 ·skip
  refine J.head (.bool true) (congrArg Value.bool (bne_iff_ne.2 fk1)) ?_
  refine J.run 5 K48_12 [(2, .string ByteArray.empty)] w (by kernel_rfl) ?_
  refine J.ret Tryd.f48 [.string ByteArray.empty] Tryd.func48 ⟨by kernel_rfl, trivial⟩ ?_
  refine hR _ _ ?_
  obtain ⟨e1, e2, e3, e4⟩ := nx_bad (by omega) (L := L) (e := e) (a := at_) (b := bad)
  exact ⟨by rw [e4]; rfl, by rw [e1, e2, e3]; exact S0⟩

theorem hb49 : HasBody Tryd.prog 49 := fun _ _ => by kernel_rfl
noncomputable def K49_0 : List Item := adv 5 [] (bodyOf Tryd.f49)
noncomputable def K49_1 : List Item := adv 2 [] (popK K49_0)
noncomputable def K49_2 : List Item := adv 7 [true] K49_1
noncomputable def K49_3 : List Item := adv 1 [] (popK K49_2)
noncomputable def K49_4 : List Item := adv 3 [] K49_3
noncomputable def K49_5 : List Item := adv 2 [] (popK K49_4)
noncomputable def K49_6 : List Item := adv 1 [] (popK K49_5)
noncomputable def K49_7 : List Item := adv 2 [false] K49_1
set_option maxRecDepth 20000 in
set_option maxHeartbeats 20000000 in
theorem fail_any (b : Nat) (a : Option Addr) (n c : Nat) (e at_ bad x : Int) (w0 : World) (L0 : List Eng.Claim) (w : World) (S0 : Sep w0 (box b [.slice a n c, iv e, iv at_, iv bad] 75 :: L0) w) (ha : -1 ≤ at_ ∧ at_ ≤ 1099511627776) : Ret Tryd.prog 49 #[.pointer (some ⟨b, 0, none⟩), iv x] w (fun v w' => v = .tuple #[] ∧ Sep w0 (box b [.slice a n c, iv (flE e x), iv at_, iv (flB e at_ bad)] 75 :: L0) w') := by
 refine Ret.named fun R hR => ?_
 refine Ret.of_J (N := 21) [(0, .pointer (some ⟨b, 0, none⟩)), (1, iv x)] Tryd.func49 rfl rfl (Nat.le_of_ble_eq_true (by kernel_rfl)) (by kernel_rfl) ?_
 refine J.run 5 K49_0 [(6, .pointer (some ⟨b, 1, none⟩)), (0, .pointer (some ⟨b, 0, none⟩)), (1, iv x)] w (by kernel_rfl) ?_
 refine J.ok (OK.ldBox S0 0 7 28 1 (iv e) (by kernel_rfl) rfl (by kernel_rfl)) ?_
 refine J.run 2 K49_1 [(8, .bool (e == 0)), (0, .pointer (some ⟨b, 0, none⟩)), (1, iv x)] w (by kernel_rfl) ?_
 by_cases fk1 : e = 0
 ·skip
  refine J.head (.bool true) (congrArg Value.bool (beq_iff_eq.2 fk1)) ?_
  refine J.run 7 K49_2 [(13, .pointer (some ⟨b, 2, none⟩)), (10, .pointer (some ⟨b, 0, none⟩)), (9, .pointer (some ⟨b, 0, none⟩)), (1, iv x)] w (by kernel_rfl) ?_
  refine J.ok (OK.ldBox S0 0 14 3 2 (iv at_) (by kernel_rfl) rfl (by kernel_rfl)) ?_
  refine J.run 1 K49_3 [(15, iv (IntKind.wrap .i64 (at_ - 1))), (10, .pointer (some ⟨b, 0, none⟩)), (9, .pointer (some ⟨b, 0, none⟩)), (1, iv x)] w (by kernel_rfl) ?_
  refine J.head (iv (at_ - 1)) (congrArg (Value.int .i64) (IntWalk.i64_in _ (by omega))) ?_
  refine J.run 3 K49_4 [(18, .pointer (some ⟨b, 3, none⟩)), (16, iv x), (15, iv (at_ - 1)), (10, .pointer (some ⟨b, 0, none⟩))] w (by kernel_rfl) ?_
  refine J.stBox S0 0 3 3 (iv (at_ - 1)) [.slice a n c, iv e, iv at_, iv (at_ - 1)] (box b [.slice a n c, iv e, iv at_, iv (at_ - 1)] 75 :: L0) (by kernel_rfl) rfl (by kernel_rfl) (by kernel_rfl) rfl ?_
  intro w1 S1
  refine J.run 2 K49_5 [(20, .pointer (some ⟨b, 1, none⟩)), (16, iv x)] w1 (by kernel_rfl) ?_
  refine J.stBox S1 0 28 1 (iv x) [.slice a n c, iv x, iv at_, iv (at_ - 1)] (box b [.slice a n c, iv x, iv at_, iv (at_ - 1)] 75 :: L0) (by kernel_rfl) rfl (by kernel_rfl) (by kernel_rfl) rfl ?_
  intro w2 S2
  refine J.run 1 K49_6 [] w2 (by kernel_rfl) ?_
  refine J.done Tryd.f49 [] Tryd.func49 trivial ?_
  refine hR _ _ ?_
  exact ⟨rfl, by unfold flE flB; rw [if_pos (by omega), if_pos (by omega)]; exact S2⟩
 ·skip
  refine J.head (.bool false) (congrArg Value.bool (beq_eq_false_iff_ne.2 fk1)) ?_
  refine J.run 2 K49_7 [] w (by kernel_rfl) ?_
  refine J.done Tryd.f49 [] Tryd.func49 trivial ?_
  refine hR _ _ ?_
  exact ⟨rfl, by unfold flE flB; rw [if_neg (by omega), if_neg (by omega)]; exact S0⟩

theorem pre_len {t : ByteArray} (h : negL (ls t) = true) : 1 ≤ t.size := by
  have hl := ls_length t
  cases hs : ls t with
  | nil => rw [hs] at h; exact absurd h (by decide)
  | cons c r => rw [hs] at hl; simp at hl; omega
theorem pre_eq {t : ByteArray} (h : 1 ≤ t.size) : ((t.extract 0 1).toList == (⟨#[45]⟩ : ByteArray).toList) = negL (ls t) := by
  have hl := ls_length t
  rw [beq_ls, ls_extract]
  cases hs : ls t with
  | nil => rw [hs] at hl; simp at hl; omega
  | cons c r =>
    show ([c] == [45]) = ((some c : Option UInt8) == some 45)
    rw [Bool.eq_iff_iff, beq_iff_eq, beq_iff_eq]
    exact ⟨fun e => by rw [(List.cons.inj e).1], fun e => by rw [Option.some.inj e]⟩
theorem pre_short {t : ByteArray} (h : ¬ 1 ≤ (t.size : Int)) : negL (ls t) = false := by
  cases hn : negL (ls t) with
  | false => rfl
  | true => have := pre_len hn; omega
theorem trim_yes {t : ByteArray} (h : negL (ls t) = true) : t.extract 1 t.size = ⟨(digL (ls t)).toArray⟩ := by
  apply ls_inj
  have hl := ls_length t
  rw [ls_extract, ← hl, List.take_length]; show _ = digL (ls t); unfold digL; rw [h, if_pos rfl, List.drop_one]
theorem trim_no {t : ByteArray} (h : negL (ls t) = false) : t = ⟨(digL (ls t)).toArray⟩ := (mk_ls t).symm.trans (by rw [digL_pos h])
theorem hb83 : HasBody Tryd.prog 83 := fun _ _ => by kernel_rfl
noncomputable def K83_0 : List Item := adv 12 [] (bodyOf Tryd.f83)
noncomputable def K83_1 : List Item := adv 3 [] K83_0
noncomputable def K83_2 : List Item := adv 5 [] (popK K83_1)
noncomputable def K83_3 : List Item := adv 9 [] K83_0
set_option maxRecDepth 20000 in
set_option maxHeartbeats 20000000 in
theorem hasp_any (t : ByteArray) (w : World) : Ret Tryd.prog 83 #[.string t, .string ⟨#[45]⟩] w (fun v w' => v = .bool (negL (ls t)) ∧ Sep w [] w') := by
 have S0 := Sep.refl w
 refine Ret.named fun R hR => ?_
 refine Ret.of_J (N := 18) [(0, .string t), (1, .string ⟨#[45]⟩)] Tryd.func83 rfl rfl (Nat.le_of_ble_eq_true (by kernel_rfl)) (by kernel_rfl) ?_
 refine J.run 12 K83_0 [(10, .bool (decide ((t.size : Int) ≥ 1))), (0, .string t), (1, .string ⟨#[45]⟩)] w (by kernel_rfl) ?_
 by_cases fk1 : (t.size : Int) ≥ 1
 ·skip
  refine J.head (.bool true) (congrArg Value.bool (decide_eq_true fk1)) ?_
  refine J.run 3 K83_1 [(13, iv 1), (11, .string t), (10, .bool true), (1, .string ⟨#[45]⟩)] w (by kernel_rfl) ?_
  refine J.ok (OK.sliceT 14 9 t none (some (iv 1)) 0 1 (by kernel_rfl) (by kernel_rfl) (.inl ⟨rfl, rfl⟩) (.inr ⟨_, _, rfl, rfl⟩) (by first | omega | (simp; omega)) (by first | omega | (simp; omega))) ?_
  have := size_extract t (i := 0) (j := 1) (by first | omega | (simp; omega))
  refine J.run 5 K83_2 [(4, .bool ((t.extract 0 1).toList == (⟨#[45]⟩ : ByteArray).toList))] w (by kernel_rfl) ?_
  refine J.ret Tryd.f83 [.bool ((t.extract 0 1).toList == (⟨#[45]⟩ : ByteArray).toList)] Tryd.func83 ⟨by kernel_rfl, trivial⟩ ?_
  refine hR _ _ ?_
  exact ⟨congrArg Value.bool (pre_eq (by omega)), S0.nil⟩
 ·skip
  refine J.head (.bool false) (congrArg Value.bool (decide_eq_false fk1)) ?_
  refine J.run 9 K83_3 [(4, .bool false)] w (by kernel_rfl) ?_
  refine J.ret Tryd.f83 [.bool false] Tryd.func83 ⟨by kernel_rfl, trivial⟩ ?_
  refine hR _ _ ?_
  exact ⟨congrArg Value.bool ((pre_short (by omega)).symm), S0.nil⟩

theorem hb71 : HasBody Tryd.prog 71 := fun _ _ => by kernel_rfl
noncomputable def K71_0 : List Item := adv 9 [] (bodyOf Tryd.f71)
noncomputable def K71_1 : List Item := adv 1 [] (popK K71_0)
noncomputable def K71_2 : List Item := adv 6 [true] K71_1
noncomputable def K71_3 : List Item := adv 2 [] (popK K71_2)
noncomputable def K71_4 : List Item := adv 7 [false] K71_1
set_option maxRecDepth 20000 in
set_option maxHeartbeats 20000000 in
theorem ltrim_any (t : ByteArray) (w : World) : Ret Tryd.prog 71 #[.string t, .string ⟨#[45]⟩] w (fun v w' => v = .string (⟨(digL (ls t)).toArray⟩ : ByteArray) ∧ Sep w [] w') := by
 have S0 := Sep.refl w
 refine Ret.named fun R hR => ?_
 refine Ret.of_J (N := 13) [(0, .string t), (1, .string ⟨#[45]⟩)] Tryd.func71 rfl rfl (Nat.le_of_ble_eq_true (by kernel_rfl)) (by kernel_rfl) ?_
 refine J.run 9 K71_0 [(6, .string ⟨#[45]⟩), (5, .string t), (0, .string t), (1, .string ⟨#[45]⟩)] w (by kernel_rfl) ?_
 refine J.callF 7 83 #[.string t, .string ⟨#[45]⟩] hb83 (by kernel_rfl) (hasp_any t _) ?_
 rintro _ w1 ⟨rfl, T1⟩
 have S1 : Sep w [] w1 := S0.trans T1
 clear T1
 refine J.run 1 K71_1 [(7, .bool (negL (ls t))), (0, .string t), (1, .string ⟨#[45]⟩)] w1 (by kernel_rfl) ?_
 rcases Bool.eq_false_or_eq_true (negL (ls t)) with fk1 | fk1
 ·skip
  refine J.head (.bool true) (congrArg Value.bool fk1) ?_
  have := pre_len fk1
  refine J.run 6 K71_2 [(10, iv 1), (8, .string t)] w1 (by kernel_rfl) ?_
  refine J.ok (OK.sliceT 11 9 t (some (iv 1)) none 1 t.size (by kernel_rfl) (by kernel_rfl) (.inr ⟨_, _, rfl, rfl⟩) (.inl ⟨rfl, rfl⟩) (by first | omega | (simp; omega)) (by first | omega | (simp; omega))) ?_
  have := size_extract t (i := 1) (j := t.size) (by first | omega | (simp; omega))
  refine J.run 2 K71_3 [(4, .string (t.extract 1 t.size))] w1 (by kernel_rfl) ?_
  refine J.ret Tryd.f71 [.string (t.extract 1 t.size)] Tryd.func71 ⟨by kernel_rfl, trivial⟩ ?_
  refine hR _ _ ?_
  exact ⟨congrArg Value.string (trim_yes fk1), S1.nil⟩
 ·skip
  refine J.head (.bool false) (congrArg Value.bool fk1) ?_
  refine J.run 7 K71_4 [(4, .string t)] w1 (by kernel_rfl) ?_
  refine J.ret Tryd.f71 [.string t] Tryd.func71 ⟨by kernel_rfl, trivial⟩ ?_
  refine hR _ _ ?_
  exact ⟨congrArg Value.string (trim_no fk1), S1.nil⟩

theorem hb60 : HasBody Tryd.prog 60 := fun _ _ => by kernel_rfl
noncomputable def K60_0 : List Item := adv 8 [] (bodyOf Tryd.f60)
noncomputable def K60_1 : List Item := adv 2 [] (popK K60_0)
set_option maxRecDepth 20000 in
set_option maxHeartbeats 20000000 in
theorem trim_any (t : ByteArray) (w : World) : Ret Tryd.prog 60 #[.string t, .string ⟨#[45]⟩] w (fun v w' => v = .string (⟨(digL (ls t)).toArray⟩ : ByteArray) ∧ Sep w [] w') := by
 have S0 := Sep.refl w
 refine Ret.named fun R hR => ?_
 refine Ret.of_J (N := 8) [(0, .string t), (1, .string ⟨#[45]⟩)] Tryd.func60 rfl rfl (Nat.le_of_ble_eq_true (by kernel_rfl)) (by kernel_rfl) ?_
 refine J.run 8 K60_0 [(6, .string ⟨#[45]⟩), (5, .string t)] w (by kernel_rfl) ?_
 refine J.callF 7 71 #[.string t, .string ⟨#[45]⟩] hb71 (by kernel_rfl) (ltrim_any t _) ?_
 rintro _ w1 ⟨rfl, T1⟩
 have S1 : Sep w [] w1 := S0.trans T1
 clear T1
 refine J.run 2 K60_1 [(4, .string (⟨(digL (ls t)).toArray⟩ : ByteArray))] w1 (by kernel_rfl) ?_
 refine J.ret Tryd.f60 [.string (⟨(digL (ls t)).toArray⟩ : ByteArray)] Tryd.func60 ⟨by kernel_rfl, trivial⟩ ?_
 refine hR _ _ ?_
 exact ⟨rfl, S1.nil⟩

def headB (t d : ByteArray) : Bool := decide (d.size ≠ 0) && (decide (byteAt d 0 ≠ 48) || (t.toList == (⟨#[48]⟩ : ByteArray).toList))
def digsB (d : ByteArray) (n : Nat) : Bool := (List.range n).all fun j => decide (48 ≤ byteAt d j) && decide (byteAt d j ≤ 57)
theorem digs_succ (d : ByteArray) {i : Int} (h : 0 ≤ i) : digsB d (i + 1).toNat = (digsB d i.toNat && (decide (48 ≤ byteAt d i.toNat) && decide (byteAt d i.toNat ≤ 57))) := by
  unfold digsB; rw [show (i + 1).toNat = i.toNat + 1 by omega, List.range_succ, List.all_append, List.all_cons, List.all_nil, Bool.and_true]
theorem head_zero {t d : ByteArray} (h : d.size = 0) : headB t d = false := by unfold headB; rw [decide_eq_false (by omega)]; rfl
theorem head_other {t d : ByteArray} (h : d.size ≠ 0) (h2 : byteAt d 0 ≠ 48) : headB t d = true := by unfold headB; rw [decide_eq_true h, decide_eq_true h2]; rfl
theorem head_null {t d : ByteArray} (h : d.size ≠ 0) (h2 : byteAt d 0 = 48) : headB t d = (t.toList == (⟨#[48]⟩ : ByteArray).toList) := by unfold headB; rw [decide_eq_true h, decide_eq_false (by omega)]; rfl
theorem form_hd {t d : ByteArray} (hd : ls d = digL (ls t)) : (headB t d && digsB d d.size) = formL (ls t) := by
  by_cases h0 : d.size = 0
  · rw [head_zero h0, form_bad1 hd (.inl h0)]; rfl
  · by_cases hq : digsB d d.size = true
    · have hq2 : ∀ j, j < d.size → 48 ≤ byteAt d j ∧ byteAt d j ≤ 57 := fun j hj => by
        have := List.all_eq_true.1 hq j (List.mem_range.2 hj)
        simpa using this
      rw [hq, Bool.and_true]
      by_cases h1 : byteAt d 0 = 48
      · rw [head_null h0 h1]
        have hsl := ls_length t; have hdl := ls_length d; have hdg := digL_len (ls t); rw [← hd] at hdg
        by_cases h2 : 1 < t.size
        · rw [form_bad1 hd (.inr ⟨h1, h2⟩), beq_ls, beq_eq_false_iff_ne]
          intro e; rw [e] at hsl; exact absurd hsl (by show ¬ 1 = t.size; omega)
        · rw [form_good hd ⟨h0, .inr h2⟩ hq2, beq_ls, beq_iff_eq]
          have hn : negL (ls t) = false := by
            cases hn : negL (ls t) with
            | false => rfl
            | true => have h3 := digL_neg hn; rw [h3, List.length_cons, ← hd] at hsl; omega
          rw [digL_pos hn] at hd
          rw [← hd]
          have h5 := congrArg List.length hd
          have h4 : ls d = [(ls d).getD 0 0] := by
            obtain ⟨x, hx⟩ := List.length_eq_one_iff.1 (show (ls d).length = 1 by omega)
            rw [hx]; rfl
          rw [h4, (byte_is (s := d) (i := 0) (k := 48) (by omega)).2 h1]; rfl
      · rw [head_other h0 h1, form_good hd ⟨h0, .inl h1⟩ hq2]
    · have hq' : digsB d d.size = false := by cases h : digsB d d.size with | false => rfl | true => exact absurd h hq
      rw [hq', Bool.and_false]
      obtain ⟨j, hj, hb⟩ := List.all_eq_false.1 hq'
      refine (form_bad2 hd (i := j) (List.mem_range.1 hj) ?_).symm
      simp at hb
      by_cases h : 48 ≤ byteAt d j
      · exact .inr (hb h)
      · exact .inl (by omega)
theorem nu_bad {L : List Tk} {e a b lo hi : Int} (h : nxE L e a ≠ 0) : nuX L e a = 0 ∧ nuE L e a lo hi = nxE L e a ∧ nuB L e a b lo hi = nxB L e a b := ⟨if_neg h, if_neg h, if_neg h⟩
theorem nu_form {L : List Tk} {e a b lo hi : Int} (h : nxE L e a = 0) (hf : formL (ls (nxT L e a)) = false) : nuX L e a = 0 ∧ nuE L e a lo hi = flE (nxE L e a) 3 ∧ nuB L e a b lo hi = flB (nxE L e a) (nxA L e a) (nxB L e a b) := by
  unfold nuX nuE nuB nuV nuG flE flB; rw [if_pos h, if_pos h, if_pos h, if_pos h, if_pos h, hf]; exact ⟨rfl, rfl, rfl⟩
theorem nu_long {L : List Tk} {e a b lo hi : Int} (h : nxE L e a = 0) (hf : formL (ls (nxT L e a)) = true) (hl : 13 < (digL (ls (nxT L e a))).length) : nuX L e a = 0 ∧ nuE L e a lo hi = flE (nxE L e a) 2 ∧ nuB L e a b lo hi = flB (nxE L e a) (nxA L e a) (nxB L e a b) := by
  unfold nuX nuE nuB nuV nuG flE flB; rw [if_pos h, if_pos h, if_pos h, if_pos h, if_pos h, hf, if_pos rfl, if_neg (by omega), rng_no (by omega)]; exact ⟨rfl, rfl, rfl⟩
theorem nu_out {L : List Tk} {e a b lo hi : Int} (h : nxE L e a = 0) (hf : formL (ls (nxT L e a)) = true) (hl : ¬ 13 < (digL (ls (nxT L e a))).length) (hr : ¬ (lo ≤ parX (nxT L e a) ∧ parX (nxT L e a) ≤ hi)) : nuX L e a = parX (nxT L e a) ∧ nuE L e a lo hi = flE (nxE L e a) 2 ∧ nuB L e a b lo hi = flB (nxE L e a) (nxA L e a) (nxB L e a b) := by
  rw [(dig13 hf (by omega)).2.1] at *
  unfold nuX nuE nuB nuV nuG flE flB; rw [if_pos h, if_pos h, if_pos h, if_pos h, if_pos h, hf, if_pos rfl, if_pos (by omega), rng_no (by omega), (dig13 hf (by omega)).2.1]; exact ⟨rfl, rfl, rfl⟩
theorem nu_in {L : List Tk} {e a b lo hi : Int} (h : nxE L e a = 0) (hf : formL (ls (nxT L e a)) = true) (hl : ¬ 13 < (digL (ls (nxT L e a))).length) (hr : lo ≤ parX (nxT L e a) ∧ parX (nxT L e a) ≤ hi) : nuX L e a = parX (nxT L e a) ∧ nuE L e a lo hi = nxE L e a ∧ nuB L e a b lo hi = nxB L e a b := by
  rw [(dig13 hf (by omega)).2.1] at *
  unfold nuX nuE nuB nuV nuG; rw [if_pos h, if_pos h, if_pos h, hf, if_pos rfl, if_pos (by omega), rng_yes (by omega), (dig13 hf (by omega)).2.1]; exact ⟨rfl, h.symm, rfl⟩
theorem hb50 : HasBody Tryd.prog 50 := fun _ _ => by kernel_rfl
noncomputable def K50_0 : List Item := adv 2 [] (bodyOf Tryd.f50)
noncomputable def K50_1 : List Item := adv 5 [] (popK K50_0)
noncomputable def K50_2 : List Item := adv 8 [] (popK K50_1)
noncomputable def K50_3 : List Item := adv 2 [] (popK K50_2)
noncomputable def K50_4 : List Item := adv 5 [false] K50_3
noncomputable def K50_5 : List Item := adv 3 [] (popK K50_4)
noncomputable def K50_6 : List Item := List.drop 1 K50_5
noncomputable def K50_7 : List Item := adv 9 [] K50_6
noncomputable def K50_8 : List Item := adv 5 [] K50_7
noncomputable def K50_9 : List Item := adv 12 [true] K50_8
noncomputable def K50_10 : List Item := adv 2 [] K50_9
noncomputable def K50_11 : List Item := adv 3 [] (popK K50_10)
noncomputable def K50_12 : List Item := adv 2 [] K50_11
noncomputable def K50_13 : List Item := adv 7 [] (popK K50_12)
noncomputable def K50_14 : List Item := adv 10 [] K50_11
noncomputable def K50_15 : List Item := adv 16 [] K50_9
noncomputable def K50_16 : List Item := adv 8 [false] K50_8
noncomputable def K50_17 : List Item := adv 9 [false] K50_16
noncomputable def K50_18 : List Item := adv 4 [true] K50_17
noncomputable def K50_19 : List Item := adv 5 [] (popK K50_18)
noncomputable def K50_20 : List Item := adv 5 [false] K50_17
noncomputable def K50_21 : List Item := adv 11 [] (popK K50_20)
noncomputable def K50_22 : List Item := adv 2 [] (popK K50_21)
noncomputable def K50_23 : List Item := adv 9 [true] K50_22
noncomputable def K50_24 : List Item := adv 6 [] (popK K50_23)
noncomputable def K50_25 : List Item := adv 2 [] K50_22
noncomputable def K50_26 : List Item := adv 3 [] (popK K50_25)
noncomputable def K50_27 : List Item := adv 3 [true] K50_26
noncomputable def K50_28 : List Item := adv 6 [] (popK K50_27)
noncomputable def K50_29 : List Item := adv 7 [false] K50_26
noncomputable def K50_30 : List Item := adv 4 [true] K50_16
noncomputable def K50_31 : List Item := adv 5 [] (popK K50_30)
noncomputable def K50_32 : List Item := adv 3 [] K50_5
noncomputable def K50_33 : List Item := adv 1 [] K50_32
noncomputable def K50_34 : List Item := adv 1 [] K50_33
noncomputable def K50_35 : List Item := adv 2 [] (popK K50_34)
noncomputable def K50_36 : List Item := adv 5 [true] K50_3
set_option maxRecDepth 20000 in
set_option maxHeartbeats 20000000 in
theorem number_any (b : Nat) (a : Option Addr) (c : Nat) (L : List Tk) (e at_ bad : Int) (word : ByteArray) (lo hi : Int) (w0 : World) (L0 : List Eng.Claim) (w : World) (S0 : Sep w0 (box b [.slice a L.length c, iv e, iv at_, iv bad] 75 :: rowOf tkE a c 78 4 L :: L0) w) (ha : 0 ≤ at_ ∧ at_ ≤ (L.length : Int)) (hL : L.length ≤ 1099511627776) (hts : ∀ k, (L.getD k tk0).gText.size ≤ 1000000) (hlh : -9223372036854775808 ≤ lo ∧ lo ≤ 9223372036854775807 ∧ -9223372036854775808 ≤ hi ∧ hi ≤ 9223372036854775807) (hW0 : TabW w0) : Ret Tryd.prog 50 #[.pointer (some ⟨b, 0, none⟩), .agg #[.string word, iv lo, iv hi]] w (fun v w' => v = iv (nuX L e at_) ∧ Sep w0 (box b [.slice a L.length c, iv (nuE L e at_ lo hi), iv (nxA L e at_), iv (nuB L e at_ bad lo hi)] 75 :: rowOf tkE a c 78 4 L :: L0) w') := by
 refine Ret.named fun R hR => ?_
 refine Ret.of_J (N := 77) [(0, .pointer (some ⟨b, 0, none⟩)), (1, .agg #[.string word, iv lo, iv hi])] Tryd.func50 rfl rfl (Nat.le_of_ble_eq_true (by kernel_rfl)) (by kernel_rfl) ?_
 have hnb := nxA_bounds (e := e) ha
 have hnz := nxT_size hts e at_
 have hdl := ls_length (⟨(digL (ls (nxT L e at_))).toArray⟩ : ByteArray)
 rw [ls_mk] at hdl
 have hsl := ls_length (nxT L e at_)
 have hdg := digL_len (ls (nxT L e at_))
 refine J.run 2 K50_0 [(0, .pointer (some ⟨b, 0, none⟩)), (1, .agg #[.string word, iv lo, iv hi])] w (by kernel_rfl) ?_
 refine J.new S0 3 [.string word, iv lo, iv hi] 51 (by kernel_rfl) ?_
 intro b1 w1 S1
 refine J.run 5 K50_1 [(11, .pointer (some ⟨b, 0, none⟩)), (3, .pointer (some ⟨b1, 0, none⟩)), (0, .pointer (some ⟨b, 0, none⟩))] w1 (by kernel_rfl) ?_
 have S2 := S1.front 2 rfl
 clear S1
 have S3 : Sep w0 (box b [.slice a L.length c, iv e, iv at_, iv bad] 75 :: rowOf tkE a c 78 4 L :: box b1 [.string word, iv lo, iv hi] 51 :: L0) w1 := S2.front 2 rfl
 clear S2
 refine J.callF 12 48 #[.pointer (some ⟨b, 0, none⟩)] hb48 (by kernel_rfl) (next_any b a c L e at_ bad _ _ _ S3 (by omega) (by omega)) ?_
 rintro _ w2 ⟨rfl, S4⟩
 replace S4 : Sep w0 (box b [.slice a L.length c, iv (nxE L e at_), iv (nxA L e at_), iv (nxB L e at_ bad)] 75 :: rowOf tkE a c 78 4 L :: box b1 [.string word, iv lo, iv hi] 51 :: L0) w2 := S4
 clear S3
 have S5 : Sep w0 (box b1 [.string word, iv lo, iv hi] 51 :: box b [.slice a L.length c, iv (nxE L e at_), iv (nxA L e at_), iv (nxB L e at_ bad)] 75 :: rowOf tkE a c 78 4 L :: L0) w2 := S4.front 2 rfl
 clear S4
 refine J.run 8 K50_2 [(15, .pointer (some ⟨b, 1, none⟩)), (5, .string (nxT L e at_)), (3, .pointer (some ⟨b1, 0, none⟩)), (0, .pointer (some ⟨b, 0, none⟩))] w2 (by kernel_rfl) ?_
 refine J.ok (OK.ldBox S5 1 16 28 1 (iv (nxE L e at_)) (by kernel_rfl) rfl (by kernel_rfl)) ?_
 refine J.run 2 K50_3 [(17, .bool ((nxE L e at_) != 0)), (5, .string (nxT L e at_)), (3, .pointer (some ⟨b1, 0, none⟩)), (0, .pointer (some ⟨b, 0, none⟩))] w2 (by kernel_rfl) ?_
 by_cases fk1 : (nxE L e at_) = 0
 ·skip
  refine J.head (.bool false) (congrArg Value.bool (bne_eq_false_iff_eq.2 fk1)) ?_
  have hnp := nxA_pos ha fk1
  refine J.run 5 K50_4 [(18, .string (nxT L e at_)), (5, .string (nxT L e at_)), (3, .pointer (some ⟨b1, 0, none⟩)), (0, .pointer (some ⟨b, 0, none⟩))] w2 (by kernel_rfl) ?_
  refine J.callF 19 60 #[.string (nxT L e at_), .string ⟨#[45]⟩] hb60 (by kernel_rfl) (trim_any (nxT L e at_) _) ?_
  rintro _ w3 ⟨rfl, T1⟩
  have S6 : Sep w0 (box b1 [.string word, iv lo, iv hi] 51 :: box b [.slice a L.length c, iv (nxE L e at_), iv (nxA L e at_), iv (nxB L e at_ bad)] 75 :: rowOf tkE a c 78 4 L :: L0) w3 := S5.trans T1
  clear T1 S5
  refine J.run 3 K50_5 [(6, .string (⟨(digL (ls (nxT L e at_))).toArray⟩ : ByteArray)), (5, .string (nxT L e at_)), (3, .pointer (some ⟨b1, 0, none⟩)), (0, .pointer (some ⟨b, 0, none⟩))] w3 (by kernel_rfl) ?_
  have X1 : ∀ (f0 : Bool) (w4 : World), (f0 = headB (nxT L e at_) (⟨(digL (ls (nxT L e at_))).toArray⟩ : ByteArray)) → Sep w0 (box b1 [.string word, iv lo, iv hi] 51 :: box b [.slice a L.length c, iv (nxE L e at_), iv (nxA L e at_), iv (nxB L e at_ bad)] 75 :: rowOf tkE a c 78 4 L :: L0) w4 → J Tryd.prog 50 77 R K50_6 [(6, .string (⟨(digL (ls (nxT L e at_))).toArray⟩ : ByteArray)), (5, .string (nxT L e at_)), (3, .pointer (some ⟨b1, 0, none⟩)), (0, .pointer (some ⟨b, 0, none⟩)), (7, .bool f0)] w4 := by
   intro f0 w4 hf0 S7
   refine J.run 9 K50_7 [(33, iv 0), (32, iv ((⟨(digL (ls (nxT L e at_))).toArray⟩ : ByteArray).size : Int)), (6, .string (⟨(digL (ls (nxT L e at_))).toArray⟩ : ByteArray)), (5, .string (nxT L e at_)), (3, .pointer (some ⟨b1, 0, none⟩)), (0, .pointer (some ⟨b, 0, none⟩)), (7, .bool f0)] w4 (by kernel_rfl) ?_
   have L50_1 : ∀ (mm_ : Nat) (f : Bool) (i : Int) (w5 : World), (0 ≤ i) → (i ≤ ((⟨(digL (ls (nxT L e at_))).toArray⟩ : ByteArray).size : Int)) → (f = (headB (nxT L e at_) (⟨(digL (ls (nxT L e at_))).toArray⟩ : ByteArray) && digsB (⟨(digL (ls (nxT L e at_))).toArray⟩ : ByteArray) (i).toNat)) → Sep w0 (box b1 [.string word, iv lo, iv hi] 51 :: box b [.slice a L.length c, iv (nxE L e at_), iv (nxA L e at_), iv (nxB L e at_ bad)] 75 :: rowOf tkE a c 78 4 L :: L0) w5 → (((⟨(digL (ls (nxT L e at_))).toArray⟩ : ByteArray).size : Int) - i).toNat = mm_ → J Tryd.prog 50 77 R K50_7 [(33, iv i), (32, iv ((⟨(digL (ls (nxT L e at_))).toArray⟩ : ByteArray).size : Int)), (6, .string (⟨(digL (ls (nxT L e at_))).toArray⟩ : ByteArray)), (5, .string (nxT L e at_)), (3, .pointer (some ⟨b1, 0, none⟩)), (0, .pointer (some ⟨b, 0, none⟩)), (7, .bool f)] w5 := by
    intro mm1
    induction mm1 using Nat.strongRecOn with
    | _ mm1 ih1 =>
    intro f i w5 h0 h1 hq S8 hm1
    refine J.run 5 K50_8 [(34, .bool (decide (i < ((⟨(digL (ls (nxT L e at_))).toArray⟩ : ByteArray).size : Int)))), (33, iv i), (32, iv ((⟨(digL (ls (nxT L e at_))).toArray⟩ : ByteArray).size : Int)), (6, .string (⟨(digL (ls (nxT L e at_))).toArray⟩ : ByteArray)), (5, .string (nxT L e at_)), (3, .pointer (some ⟨b1, 0, none⟩)), (0, .pointer (some ⟨b, 0, none⟩)), (7, .bool f)] w5 (by kernel_rfl) ?_
    by_cases fk2 : i < ((⟨(digL (ls (nxT L e at_))).toArray⟩ : ByteArray).size : Int)
    ·skip
     refine J.head (.bool true) (congrArg Value.bool (decide_eq_true fk2)) ?_
     refine J.run 12 K50_9 [(37, .bool f), (8, iv i), (33, iv i), (32, iv ((⟨(digL (ls (nxT L e at_))).toArray⟩ : ByteArray).size : Int)), (6, .string (⟨(digL (ls (nxT L e at_))).toArray⟩ : ByteArray)), (5, .string (nxT L e at_)), (3, .pointer (some ⟨b1, 0, none⟩)), (0, .pointer (some ⟨b, 0, none⟩))] w5 (by kernel_rfl) ?_
     rcases Bool.eq_false_or_eq_true f with fk3 | fk3
     ·skip
      refine J.head (.bool true) (congrArg Value.bool fk3) ?_
      refine J.run 2 K50_10 [(39, iv i), (38, .string (⟨(digL (ls (nxT L e at_))).toArray⟩ : ByteArray)), (37, .bool true), (8, iv i), (33, iv i), (32, iv ((⟨(digL (ls (nxT L e at_))).toArray⟩ : ByteArray).size : Int)), (6, .string (⟨(digL (ls (nxT L e at_))).toArray⟩ : ByteArray)), (5, .string (nxT L e at_)), (3, .pointer (some ⟨b1, 0, none⟩)), (0, .pointer (some ⟨b, 0, none⟩))] w5 (by kernel_rfl) ?_
      have := byteAt_bounds (⟨(digL (ls (nxT L e at_))).toArray⟩ : ByteArray) (i).toNat
      refine J.ok (OK.byte 40 9 (⟨(digL (ls (nxT L e at_))).toArray⟩ : ByteArray) i (byteAt (⟨(digL (ls (nxT L e at_))).toArray⟩ : ByteArray) (i).toNat) (by kernel_rfl) (by kernel_rfl) (by omega) (by omega) (rfl)) ?_
      refine J.run 3 K50_11 [(43, .bool (decide ((byteAt (⟨(digL (ls (nxT L e at_))).toArray⟩ : ByteArray) (i).toNat) ≥ 48))), (8, iv i), (33, iv i), (32, iv ((⟨(digL (ls (nxT L e at_))).toArray⟩ : ByteArray).size : Int)), (6, .string (⟨(digL (ls (nxT L e at_))).toArray⟩ : ByteArray)), (5, .string (nxT L e at_)), (3, .pointer (some ⟨b1, 0, none⟩)), (0, .pointer (some ⟨b, 0, none⟩))] w5 (by kernel_rfl) ?_
      by_cases fk4 : (byteAt (⟨(digL (ls (nxT L e at_))).toArray⟩ : ByteArray) (i).toNat) ≥ 48
      ·skip
       refine J.head (.bool true) (congrArg Value.bool (decide_eq_true fk4)) ?_
       refine J.run 2 K50_12 [(45, iv i), (44, .string (⟨(digL (ls (nxT L e at_))).toArray⟩ : ByteArray)), (43, .bool true), (33, iv i), (32, iv ((⟨(digL (ls (nxT L e at_))).toArray⟩ : ByteArray).size : Int)), (6, .string (⟨(digL (ls (nxT L e at_))).toArray⟩ : ByteArray)), (5, .string (nxT L e at_)), (3, .pointer (some ⟨b1, 0, none⟩)), (0, .pointer (some ⟨b, 0, none⟩))] w5 (by kernel_rfl) ?_
       have := byteAt_bounds (⟨(digL (ls (nxT L e at_))).toArray⟩ : ByteArray) (i).toNat
       refine J.ok (OK.byte 46 9 (⟨(digL (ls (nxT L e at_))).toArray⟩ : ByteArray) i (byteAt (⟨(digL (ls (nxT L e at_))).toArray⟩ : ByteArray) (i).toNat) (by kernel_rfl) (by kernel_rfl) (by omega) (by omega) (rfl)) ?_
       refine J.run 7 K50_13 [(49, iv (IntKind.wrap .i64 (i + 1))), (7, .bool (decide ((byteAt (⟨(digL (ls (nxT L e at_))).toArray⟩ : ByteArray) (i).toNat) ≤ 57))), (32, iv ((⟨(digL (ls (nxT L e at_))).toArray⟩ : ByteArray).size : Int)), (6, .string (⟨(digL (ls (nxT L e at_))).toArray⟩ : ByteArray)), (5, .string (nxT L e at_)), (3, .pointer (some ⟨b1, 0, none⟩)), (0, .pointer (some ⟨b, 0, none⟩))] w5 (by kernel_rfl) ?_
       refine J.head (iv (i + 1)) (congrArg (Value.int .i64) (IntWalk.i64_in _ (by omega))) ?_
       refine J.run 3 K50_7 [(33, iv (i + 1)), (7, .bool (decide ((byteAt (⟨(digL (ls (nxT L e at_))).toArray⟩ : ByteArray) (i).toNat) ≤ 57))), (32, iv ((⟨(digL (ls (nxT L e at_))).toArray⟩ : ByteArray).size : Int)), (6, .string (⟨(digL (ls (nxT L e at_))).toArray⟩ : ByteArray)), (5, .string (nxT L e at_)), (3, .pointer (some ⟨b1, 0, none⟩)), (0, .pointer (some ⟨b, 0, none⟩))] w5 (by kernel_rfl) ?_
       refine J.run 0 K50_7 [(33, iv (i + 1)), (32, iv ((⟨(digL (ls (nxT L e at_))).toArray⟩ : ByteArray).size : Int)), (6, .string (⟨(digL (ls (nxT L e at_))).toArray⟩ : ByteArray)), (5, .string (nxT L e at_)), (3, .pointer (some ⟨b1, 0, none⟩)), (0, .pointer (some ⟨b, 0, none⟩)), (7, .bool (decide ((byteAt (⟨(digL (ls (nxT L e at_))).toArray⟩ : ByteArray) (i).toNat) ≤ 57)))] w5 (by kernel_rfl) ?_
       exact ih1 _ (show (((⟨(digL (ls (nxT L e at_))).toArray⟩ : ByteArray).size : Int) - (i + 1)).toNat < mm1 from by omega) (decide ((byteAt (⟨(digL (ls (nxT L e at_))).toArray⟩ : ByteArray) (i).toNat) ≤ 57)) (i + 1) w5 (by omega) (by omega) (by rw [digs_succ _ h0, ← Bool.and_assoc, ← hq, fk3, decide_eq_true (show 48 ≤ byteAt (⟨(digL (ls (nxT L e at_))).toArray⟩ : ByteArray) (i).toNat by omega), Bool.true_and, Bool.true_and]) S8 rfl
      ·skip
       refine J.head (.bool false) (congrArg Value.bool (decide_eq_false fk4)) ?_
       refine J.run 10 K50_14 [(49, iv (IntKind.wrap .i64 (i + 1))), (7, .bool false), (32, iv ((⟨(digL (ls (nxT L e at_))).toArray⟩ : ByteArray).size : Int)), (6, .string (⟨(digL (ls (nxT L e at_))).toArray⟩ : ByteArray)), (5, .string (nxT L e at_)), (3, .pointer (some ⟨b1, 0, none⟩)), (0, .pointer (some ⟨b, 0, none⟩))] w5 (by kernel_rfl) ?_
       refine J.head (iv (i + 1)) (congrArg (Value.int .i64) (IntWalk.i64_in _ (by omega))) ?_
       refine J.run 3 K50_7 [(33, iv (i + 1)), (7, .bool false), (32, iv ((⟨(digL (ls (nxT L e at_))).toArray⟩ : ByteArray).size : Int)), (6, .string (⟨(digL (ls (nxT L e at_))).toArray⟩ : ByteArray)), (5, .string (nxT L e at_)), (3, .pointer (some ⟨b1, 0, none⟩)), (0, .pointer (some ⟨b, 0, none⟩))] w5 (by kernel_rfl) ?_
       refine J.run 0 K50_7 [(33, iv (i + 1)), (32, iv ((⟨(digL (ls (nxT L e at_))).toArray⟩ : ByteArray).size : Int)), (6, .string (⟨(digL (ls (nxT L e at_))).toArray⟩ : ByteArray)), (5, .string (nxT L e at_)), (3, .pointer (some ⟨b1, 0, none⟩)), (0, .pointer (some ⟨b, 0, none⟩)), (7, .bool false)] w5 (by kernel_rfl) ?_
       exact ih1 _ (show (((⟨(digL (ls (nxT L e at_))).toArray⟩ : ByteArray).size : Int) - (i + 1)).toNat < mm1 from by omega) false (i + 1) w5 (by omega) (by omega) (by rw [digs_succ _ h0, ← Bool.and_assoc, ← hq, decide_eq_false (show ¬ 48 ≤ byteAt (⟨(digL (ls (nxT L e at_))).toArray⟩ : ByteArray) (i).toNat by omega), Bool.false_and, Bool.and_false]) S8 rfl
     ·skip
      refine J.head (.bool false) (congrArg Value.bool fk3) ?_
      refine J.run 16 K50_15 [(49, iv (IntKind.wrap .i64 (i + 1))), (7, .bool false), (32, iv ((⟨(digL (ls (nxT L e at_))).toArray⟩ : ByteArray).size : Int)), (6, .string (⟨(digL (ls (nxT L e at_))).toArray⟩ : ByteArray)), (5, .string (nxT L e at_)), (3, .pointer (some ⟨b1, 0, none⟩)), (0, .pointer (some ⟨b, 0, none⟩))] w5 (by kernel_rfl) ?_
      refine J.head (iv (i + 1)) (congrArg (Value.int .i64) (IntWalk.i64_in _ (by omega))) ?_
      refine J.run 3 K50_7 [(33, iv (i + 1)), (7, .bool false), (32, iv ((⟨(digL (ls (nxT L e at_))).toArray⟩ : ByteArray).size : Int)), (6, .string (⟨(digL (ls (nxT L e at_))).toArray⟩ : ByteArray)), (5, .string (nxT L e at_)), (3, .pointer (some ⟨b1, 0, none⟩)), (0, .pointer (some ⟨b, 0, none⟩))] w5 (by kernel_rfl) ?_
      refine J.run 0 K50_7 [(33, iv (i + 1)), (32, iv ((⟨(digL (ls (nxT L e at_))).toArray⟩ : ByteArray).size : Int)), (6, .string (⟨(digL (ls (nxT L e at_))).toArray⟩ : ByteArray)), (5, .string (nxT L e at_)), (3, .pointer (some ⟨b1, 0, none⟩)), (0, .pointer (some ⟨b, 0, none⟩)), (7, .bool false)] w5 (by kernel_rfl) ?_
      exact ih1 _ (show (((⟨(digL (ls (nxT L e at_))).toArray⟩ : ByteArray).size : Int) - (i + 1)).toNat < mm1 from by omega) false (i + 1) w5 (by omega) (by omega) (by rw [digs_succ _ h0, ← Bool.and_assoc, ← hq, fk3]; rfl) S8 rfl
    ·skip
     refine J.head (.bool false) (congrArg Value.bool (decide_eq_false fk2)) ?_
     have hform : formL (ls (nxT L e at_)) = f := (form_hd (t := (nxT L e at_)) (d := (⟨(digL (ls (nxT L e at_))).toArray⟩ : ByteArray)) rfl).symm.trans (by rw [show (⟨(digL (ls (nxT L e at_))).toArray⟩ : ByteArray).size = i.toNat by omega]; exact hq.symm)
     refine J.run 8 K50_16 [(51, .bool (!f)), (6, .string (⟨(digL (ls (nxT L e at_))).toArray⟩ : ByteArray)), (5, .string (nxT L e at_)), (3, .pointer (some ⟨b1, 0, none⟩)), (0, .pointer (some ⟨b, 0, none⟩))] w5 (by kernel_rfl) ?_
     rcases Bool.eq_false_or_eq_true f with fk5 | fk5
     ·skip
      refine J.head (.bool false) (congrArg Value.bool (by rw [fk5]; rfl)) ?_
      refine J.run 9 K50_17 [(56, .bool (decide (((⟨(digL (ls (nxT L e at_))).toArray⟩ : ByteArray).size : Int) > 13))), (5, .string (nxT L e at_)), (3, .pointer (some ⟨b1, 0, none⟩)), (0, .pointer (some ⟨b, 0, none⟩))] w5 (by kernel_rfl) ?_
      by_cases fk6 : ((⟨(digL (ls (nxT L e at_))).toArray⟩ : ByteArray).size : Int) > 13
      ·skip
       refine J.head (.bool true) (congrArg Value.bool (decide_eq_true fk6)) ?_
       refine J.run 4 K50_18 [(57, .pointer (some ⟨b, 0, none⟩))] w5 (by kernel_rfl) ?_
       have S9 : Sep w0 (box b [.slice a L.length c, iv (nxE L e at_), iv (nxA L e at_), iv (nxB L e at_ bad)] 75 :: box b1 [.string word, iv lo, iv hi] 51 :: rowOf tkE a c 78 4 L :: L0) w5 := S8.front 1 rfl
       clear S8
       refine J.callF 58 49 #[.pointer (some ⟨b, 0, none⟩), iv 2] hb49 (by kernel_rfl) (fail_any b a L.length c (nxE L e at_) (nxA L e at_) (nxB L e at_ bad) 2 _ _ _ S9 (by omega)) ?_
       rintro _ w6 ⟨rfl, S10⟩
       replace S10 : Sep w0 (box b [.slice a L.length c, iv (flE (nxE L e at_) 2), iv (nxA L e at_), iv (flB (nxE L e at_) (nxA L e at_) (nxB L e at_ bad))] 75 :: box b1 [.string word, iv lo, iv hi] 51 :: rowOf tkE a c 78 4 L :: L0) w6 := S10
       clear S9
       have S11 : Sep w0 (box b1 [.string word, iv lo, iv hi] 51 :: box b [.slice a L.length c, iv (flE (nxE L e at_) 2), iv (nxA L e at_), iv (flB (nxE L e at_) (nxA L e at_) (nxB L e at_ bad))] 75 :: rowOf tkE a c 78 4 L :: L0) w6 := S10.front 1 rfl
       clear S10
       refine J.run 5 K50_19 [(4, iv 0)] w6 (by kernel_rfl) ?_
       refine J.ret Tryd.f50 [iv 0] Tryd.func50 ⟨by kernel_rfl, trivial⟩ ?_
       refine hR _ _ ?_
       have S12 : Sep w0 (box b [.slice a L.length c, iv (flE (nxE L e at_) 2), iv (nxA L e at_), iv (flB (nxE L e at_) (nxA L e at_) (nxB L e at_ bad))] 75 :: rowOf tkE a c 78 4 L :: L0) w6 := S11.erase 0
       clear S11
       obtain ⟨e1, e2, e3⟩ := nu_long (by omega) (hform.trans fk5) (by omega) (L := L) (e := e) (a := at_) (b := bad) (lo := lo) (hi := hi)
       exact ⟨by rw [e1]; rfl, by rw [e2, e3]; exact S12⟩
      ·skip
       refine J.head (.bool false) (congrArg Value.bool (decide_eq_false fk6)) ?_
       refine J.run 5 K50_20 [(60, .string (nxT L e at_)), (3, .pointer (some ⟨b1, 0, none⟩)), (0, .pointer (some ⟨b, 0, none⟩))] w5 (by kernel_rfl) ?_
       refine J.callF 61 61 #[.string (nxT L e at_)] hb61 (by kernel_rfl) (aparse_any (nxT L e at_) _ (by omega) (tabW_sep hW0 S8)) ?_
       rintro _ w7 ⟨rfl, T2⟩
       have S13 : Sep w0 (box b1 [.string word, iv lo, iv hi] 51 :: box b [.slice a L.length c, iv (nxE L e at_), iv (nxA L e at_), iv (nxB L e at_ bad)] 75 :: rowOf tkE a c 78 4 L :: L0) w7 := S8.trans T2
       clear T2 S8
       have := par_bounds (nxT L e at_)
       refine J.run 11 K50_21 [(65, .pointer (some ⟨b1, 1, none⟩)), (64, iv (parX (nxT L e at_))), (9, iv (parX (nxT L e at_))), (3, .pointer (some ⟨b1, 0, none⟩)), (0, .pointer (some ⟨b, 0, none⟩))] w7 (by kernel_rfl) ?_
       refine J.ok (OK.ldBox S13 0 66 3 1 (iv lo) (by kernel_rfl) rfl (by kernel_rfl)) ?_
       refine J.run 2 K50_22 [(68, .bool (decide ((parX (nxT L e at_)) < lo))), (9, iv (parX (nxT L e at_))), (3, .pointer (some ⟨b1, 0, none⟩)), (0, .pointer (some ⟨b, 0, none⟩))] w7 (by kernel_rfl) ?_
       by_cases fk7 : (parX (nxT L e at_)) < lo
       ·skip
        refine J.head (.bool true) (congrArg Value.bool (decide_eq_true fk7)) ?_
        refine J.run 9 K50_23 [(74, .pointer (some ⟨b, 0, none⟩)), (9, iv (parX (nxT L e at_)))] w7 (by kernel_rfl) ?_
        have S14 : Sep w0 (box b [.slice a L.length c, iv (nxE L e at_), iv (nxA L e at_), iv (nxB L e at_ bad)] 75 :: box b1 [.string word, iv lo, iv hi] 51 :: rowOf tkE a c 78 4 L :: L0) w7 := S13.front 1 rfl
        clear S13
        refine J.callF 75 49 #[.pointer (some ⟨b, 0, none⟩), iv 2] hb49 (by kernel_rfl) (fail_any b a L.length c (nxE L e at_) (nxA L e at_) (nxB L e at_ bad) 2 _ _ _ S14 (by omega)) ?_
        rintro _ w8 ⟨rfl, S15⟩
        replace S15 : Sep w0 (box b [.slice a L.length c, iv (flE (nxE L e at_) 2), iv (nxA L e at_), iv (flB (nxE L e at_) (nxA L e at_) (nxB L e at_ bad))] 75 :: box b1 [.string word, iv lo, iv hi] 51 :: rowOf tkE a c 78 4 L :: L0) w8 := S15
        clear S14
        have S16 : Sep w0 (box b1 [.string word, iv lo, iv hi] 51 :: box b [.slice a L.length c, iv (flE (nxE L e at_) 2), iv (nxA L e at_), iv (flB (nxE L e at_) (nxA L e at_) (nxB L e at_ bad))] 75 :: rowOf tkE a c 78 4 L :: L0) w8 := S15.front 1 rfl
        clear S15
        refine J.run 6 K50_24 [(4, iv (parX (nxT L e at_)))] w8 (by kernel_rfl) ?_
        refine J.ret Tryd.f50 [iv (parX (nxT L e at_))] Tryd.func50 ⟨by kernel_rfl, trivial⟩ ?_
        refine hR _ _ ?_
        have S17 : Sep w0 (box b [.slice a L.length c, iv (flE (nxE L e at_) 2), iv (nxA L e at_), iv (flB (nxE L e at_) (nxA L e at_) (nxB L e at_ bad))] 75 :: rowOf tkE a c 78 4 L :: L0) w8 := S16.erase 0
        clear S16
        obtain ⟨e1, e2, e3⟩ := nu_out (by omega) (hform.trans fk5) (by omega) (by omega) (L := L) (e := e) (a := at_) (b := bad) (lo := lo) (hi := hi)
        exact ⟨by rw [e1]; rfl, by rw [e2, e3]; exact S17⟩
       ·skip
        refine J.head (.bool false) (congrArg Value.bool (decide_eq_false fk7)) ?_
        refine J.run 2 K50_25 [(70, .pointer (some ⟨b1, 2, none⟩)), (69, iv (parX (nxT L e at_))), (68, .bool false), (9, iv (parX (nxT L e at_))), (0, .pointer (some ⟨b, 0, none⟩))] w7 (by kernel_rfl) ?_
        refine J.ok (OK.ldBox S13 0 71 3 2 (iv hi) (by kernel_rfl) rfl (by kernel_rfl)) ?_
        refine J.run 3 K50_26 [(73, .bool (decide ((parX (nxT L e at_)) > hi))), (9, iv (parX (nxT L e at_))), (0, .pointer (some ⟨b, 0, none⟩))] w7 (by kernel_rfl) ?_
        by_cases fk8 : (parX (nxT L e at_)) > hi
        ·skip
         refine J.head (.bool true) (congrArg Value.bool (decide_eq_true fk8)) ?_
         refine J.run 3 K50_27 [(74, .pointer (some ⟨b, 0, none⟩)), (9, iv (parX (nxT L e at_)))] w7 (by kernel_rfl) ?_
         have S18 : Sep w0 (box b [.slice a L.length c, iv (nxE L e at_), iv (nxA L e at_), iv (nxB L e at_ bad)] 75 :: box b1 [.string word, iv lo, iv hi] 51 :: rowOf tkE a c 78 4 L :: L0) w7 := S13.front 1 rfl
         clear S13
         refine J.callF 75 49 #[.pointer (some ⟨b, 0, none⟩), iv 2] hb49 (by kernel_rfl) (fail_any b a L.length c (nxE L e at_) (nxA L e at_) (nxB L e at_ bad) 2 _ _ _ S18 (by omega)) ?_
         rintro _ w9 ⟨rfl, S19⟩
         replace S19 : Sep w0 (box b [.slice a L.length c, iv (flE (nxE L e at_) 2), iv (nxA L e at_), iv (flB (nxE L e at_) (nxA L e at_) (nxB L e at_ bad))] 75 :: box b1 [.string word, iv lo, iv hi] 51 :: rowOf tkE a c 78 4 L :: L0) w9 := S19
         clear S18
         have S20 : Sep w0 (box b1 [.string word, iv lo, iv hi] 51 :: box b [.slice a L.length c, iv (flE (nxE L e at_) 2), iv (nxA L e at_), iv (flB (nxE L e at_) (nxA L e at_) (nxB L e at_ bad))] 75 :: rowOf tkE a c 78 4 L :: L0) w9 := S19.front 1 rfl
         clear S19
         refine J.run 6 K50_28 [(4, iv (parX (nxT L e at_)))] w9 (by kernel_rfl) ?_
         refine J.ret Tryd.f50 [iv (parX (nxT L e at_))] Tryd.func50 ⟨by kernel_rfl, trivial⟩ ?_
         refine hR _ _ ?_
         have S21 : Sep w0 (box b [.slice a L.length c, iv (flE (nxE L e at_) 2), iv (nxA L e at_), iv (flB (nxE L e at_) (nxA L e at_) (nxB L e at_ bad))] 75 :: rowOf tkE a c 78 4 L :: L0) w9 := S20.erase 0
         clear S20
         obtain ⟨e1, e2, e3⟩ := nu_out (by omega) (hform.trans fk5) (by omega) (by omega) (L := L) (e := e) (a := at_) (b := bad) (lo := lo) (hi := hi)
         exact ⟨by rw [e1]; rfl, by rw [e2, e3]; exact S21⟩
        ·skip
         refine J.head (.bool false) (congrArg Value.bool (decide_eq_false fk8)) ?_
         refine J.run 7 K50_29 [(4, iv (parX (nxT L e at_)))] w7 (by kernel_rfl) ?_
         refine J.ret Tryd.f50 [iv (parX (nxT L e at_))] Tryd.func50 ⟨by kernel_rfl, trivial⟩ ?_
         refine hR _ _ ?_
         have S22 : Sep w0 (box b [.slice a L.length c, iv (nxE L e at_), iv (nxA L e at_), iv (nxB L e at_ bad)] 75 :: rowOf tkE a c 78 4 L :: L0) w7 := S13.erase 0
         clear S13
         obtain ⟨e1, e2, e3⟩ := nu_in (by omega) (hform.trans fk5) (by omega) (by omega) (L := L) (e := e) (a := at_) (b := bad) (lo := lo) (hi := hi)
         exact ⟨by rw [e1]; rfl, by rw [e2, e3]; exact S22⟩
     ·skip
      refine J.head (.bool true) (congrArg Value.bool (by rw [fk5]; rfl)) ?_
      refine J.run 4 K50_30 [(52, .pointer (some ⟨b, 0, none⟩))] w5 (by kernel_rfl) ?_
      have S23 : Sep w0 (box b [.slice a L.length c, iv (nxE L e at_), iv (nxA L e at_), iv (nxB L e at_ bad)] 75 :: box b1 [.string word, iv lo, iv hi] 51 :: rowOf tkE a c 78 4 L :: L0) w5 := S8.front 1 rfl
      clear S8
      refine J.callF 53 49 #[.pointer (some ⟨b, 0, none⟩), iv 3] hb49 (by kernel_rfl) (fail_any b a L.length c (nxE L e at_) (nxA L e at_) (nxB L e at_ bad) 3 _ _ _ S23 (by omega)) ?_
      rintro _ w10 ⟨rfl, S24⟩
      replace S24 : Sep w0 (box b [.slice a L.length c, iv (flE (nxE L e at_) 3), iv (nxA L e at_), iv (flB (nxE L e at_) (nxA L e at_) (nxB L e at_ bad))] 75 :: box b1 [.string word, iv lo, iv hi] 51 :: rowOf tkE a c 78 4 L :: L0) w10 := S24
      clear S23
      have S25 : Sep w0 (box b1 [.string word, iv lo, iv hi] 51 :: box b [.slice a L.length c, iv (flE (nxE L e at_) 3), iv (nxA L e at_), iv (flB (nxE L e at_) (nxA L e at_) (nxB L e at_ bad))] 75 :: rowOf tkE a c 78 4 L :: L0) w10 := S24.front 1 rfl
      clear S24
      refine J.run 5 K50_31 [(4, iv 0)] w10 (by kernel_rfl) ?_
      refine J.ret Tryd.f50 [iv 0] Tryd.func50 ⟨by kernel_rfl, trivial⟩ ?_
      refine hR _ _ ?_
      have S26 : Sep w0 (box b [.slice a L.length c, iv (flE (nxE L e at_) 3), iv (nxA L e at_), iv (flB (nxE L e at_) (nxA L e at_) (nxB L e at_ bad))] 75 :: rowOf tkE a c 78 4 L :: L0) w10 := S25.erase 0
      clear S25
      obtain ⟨e1, e2, e3⟩ := nu_form (by omega) (hform.trans fk5) (L := L) (e := e) (a := at_) (b := bad) (lo := lo) (hi := hi)
      exact ⟨by rw [e1]; rfl, by rw [e2, e3]; exact S26⟩
   exact L50_1 _ f0 0 w4 (by omega) (by omega) (hf0.trans (by rw [show digsB _ (0 : Int).toNat = true from rfl, Bool.and_true])) S7 rfl
  refine J.run 3 K50_32 [(21, .bool (!((⟨(digL (ls (nxT L e at_))).toArray⟩ : ByteArray).toList == (⟨#[]⟩ : ByteArray).toList))), (6, .string (⟨(digL (ls (nxT L e at_))).toArray⟩ : ByteArray)), (5, .string (nxT L e at_)), (3, .pointer (some ⟨b1, 0, none⟩)), (0, .pointer (some ⟨b, 0, none⟩))] w3 (by kernel_rfl) ?_
  refine J.head (.bool (((⟨(digL (ls (nxT L e at_))).toArray⟩ : ByteArray).size : Int) != 0)) (congrArg Value.bool (beq_nil_neq _)) ?_
  refine J.run 1 K50_33 [(22, .bool (((⟨(digL (ls (nxT L e at_))).toArray⟩ : ByteArray).size : Int) != 0)), (6, .string (⟨(digL (ls (nxT L e at_))).toArray⟩ : ByteArray)), (5, .string (nxT L e at_)), (3, .pointer (some ⟨b1, 0, none⟩)), (0, .pointer (some ⟨b, 0, none⟩))] w3 (by kernel_rfl) ?_
  by_cases fk9 : ((⟨(digL (ls (nxT L e at_))).toArray⟩ : ByteArray).size : Int) = 0
  ·skip
   refine J.head (.bool false) (congrArg Value.bool (bne_eq_false_iff_eq.2 fk9)) ?_
   refine J.run 10 K50_6 [(6, .string (⟨(digL (ls (nxT L e at_))).toArray⟩ : ByteArray)), (5, .string (nxT L e at_)), (3, .pointer (some ⟨b1, 0, none⟩)), (0, .pointer (some ⟨b, 0, none⟩)), (7, .bool false)] w3 (by kernel_rfl) ?_
   exact X1 false w3 ((by first | exact (head_zero (by omega)).symm | exact (head_other (by omega) (by omega)).symm | exact (head_null (by omega) (by omega)).symm)) S6
  ·skip
   refine J.head (.bool true) (congrArg Value.bool (bne_iff_ne.2 fk9)) ?_
   refine J.run 1 K50_34 [(23, .string (⟨(digL (ls (nxT L e at_))).toArray⟩ : ByteArray)), (22, .bool true), (6, .string (⟨(digL (ls (nxT L e at_))).toArray⟩ : ByteArray)), (5, .string (nxT L e at_)), (3, .pointer (some ⟨b1, 0, none⟩)), (0, .pointer (some ⟨b, 0, none⟩))] w3 (by kernel_rfl) ?_
   have := byteAt_bounds (⟨(digL (ls (nxT L e at_))).toArray⟩ : ByteArray) 0
   refine J.ok (OK.byte 24 9 (⟨(digL (ls (nxT L e at_))).toArray⟩ : ByteArray) (0 : Int) (byteAt (⟨(digL (ls (nxT L e at_))).toArray⟩ : ByteArray) 0) (by kernel_rfl) (by kernel_rfl) (by omega) (by omega) (rfl)) ?_
   refine J.run 2 K50_35 [(26, .bool ((byteAt (⟨(digL (ls (nxT L e at_))).toArray⟩ : ByteArray) 0) != 48)), (22, .bool true), (6, .string (⟨(digL (ls (nxT L e at_))).toArray⟩ : ByteArray)), (5, .string (nxT L e at_)), (3, .pointer (some ⟨b1, 0, none⟩)), (0, .pointer (some ⟨b, 0, none⟩))] w3 (by kernel_rfl) ?_
   by_cases fk10 : (byteAt (⟨(digL (ls (nxT L e at_))).toArray⟩ : ByteArray) 0) = 48
   ·skip
    refine J.head (.bool false) (congrArg Value.bool (bne_eq_false_iff_eq.2 fk10)) ?_
    refine J.run 6 K50_6 [(6, .string (⟨(digL (ls (nxT L e at_))).toArray⟩ : ByteArray)), (5, .string (nxT L e at_)), (3, .pointer (some ⟨b1, 0, none⟩)), (0, .pointer (some ⟨b, 0, none⟩)), (7, .bool ((nxT L e at_).toList == (⟨#[48]⟩ : ByteArray).toList))] w3 (by kernel_rfl) ?_
    exact X1 ((nxT L e at_).toList == (⟨#[48]⟩ : ByteArray).toList) w3 ((by first | exact (head_zero (by omega)).symm | exact (head_other (by omega) (by omega)).symm | exact (head_null (by omega) (by omega)).symm)) S6
   ·skip
    refine J.head (.bool true) (congrArg Value.bool (bne_iff_ne.2 fk10)) ?_
    refine J.run 6 K50_6 [(6, .string (⟨(digL (ls (nxT L e at_))).toArray⟩ : ByteArray)), (5, .string (nxT L e at_)), (3, .pointer (some ⟨b1, 0, none⟩)), (0, .pointer (some ⟨b, 0, none⟩)), (7, .bool true)] w3 (by kernel_rfl) ?_
    exact X1 true w3 ((by first | exact (head_zero (by omega)).symm | exact (head_other (by omega) (by omega)).symm | exact (head_null (by omega) (by omega)).symm)) S6
 ·skip
  refine J.head (.bool true) (congrArg Value.bool (bne_iff_ne.2 fk1)) ?_
  refine J.run 5 K50_36 [(4, iv 0)] w2 (by kernel_rfl) ?_
  refine J.ret Tryd.f50 [iv 0] Tryd.func50 ⟨by kernel_rfl, trivial⟩ ?_
  refine hR _ _ ?_
  have S27 : Sep w0 (box b [.slice a L.length c, iv (nxE L e at_), iv (nxA L e at_), iv (nxB L e at_ bad)] 75 :: rowOf tkE a c 78 4 L :: L0) w2 := S5.erase 0
  clear S5
  obtain ⟨e1, e2, e3⟩ := nu_bad (by omega) (L := L) (e := e) (a := at_) (b := bad) (lo := lo) (hi := hi)
  exact ⟨by rw [e1]; rfl, by rw [e2, e3]; exact S27⟩

end Go.Proofs.YthhdaackhfffiaaDoor

