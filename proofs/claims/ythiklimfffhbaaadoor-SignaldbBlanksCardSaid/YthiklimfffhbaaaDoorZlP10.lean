/- Walks of functions of this seat, printed by a program over the engine. Conditions: as each theorem says. -/
import Derived.Test.YthiklimfffhbaaaDoorZlP9
namespace Go.Proofs.YthiklimfffhbaaaDoor
noncomputable section
open Go.Eng Go.RowKit
set_option linter.unusedSimpArgs false
set_option linter.unusedVariables false
theorem hb20 : HasBody Tryd.prog 20 := fun _ _ => by kernel_rfl
theorem cut35_any (s : ByteArray) (w : World) (hs : s.size < 4294967281) (hW : TabW w) : Ret Tryd.prog 20 #[.string s, .string ⟨#[35]⟩] w (fun v w' => v = .tuple #[.string ⟨(beforeL 35 (ls s)).toArray⟩, .string ⟨(Lib.cut (ls s) [35]).2.1.toArray⟩, .bool (Lib.cut (ls s) [35]).2.2] ∧ Sep w [] w') := by
  obtain ⟨m, hm⟩ := hW.2.2.2
  refine Calls.mono (Tryd.strings_Cut s ⟨#[35]⟩ m w hs hm) fun e w' ⟨he, n, hw⟩ => ?_
  subst he hw
  exact ⟨_, by rw [← cut_before] <;> rfl, rfl, .of_below (below_drewN (Below.refl _ _) n)⟩
theorem hb19 : HasBody Tryd.prog 19 := fun _ _ => by kernel_rfl
theorem split10_any (s : ByteArray) (w : World) (hs : s.size < 4294967281) (hW : TabW w) : Ret Tryd.prog 19 #[.string s, .string ⟨#[10]⟩] w (fun v w' => ∃ b, v = .slice (some ⟨b, 0, none⟩) (piecesB 10 s).length (piecesB 10 s).length ∧ Sep w [box b ((piecesB 10 s).map Value.string) 9] w') := by
  obtain ⟨m, hm⟩ := hW.2.2.2
  refine Calls.mono (Tryd.strings_Split s ⟨#[10]⟩ m w hs hm (Nat.le_refl 1)) fun e w' ⟨he, hw⟩ => ?_
  subst he hw
  rw [splitB_len, splitB_pieces]
  exact ⟨_, rfl, _, rfl, Sep.of_alloc _ _ _⟩
theorem hb38 : HasBody Tryd.prog 38 := fun _ _ => by kernel_rfl
def K38_0 := adv 11 [] (bodyOf Tryd.f38)
def K38_1 := adv 5 [] K38_0
def K38_2 := adv 5 [] (popK K38_1)
def K38_3 := adv 12 [] K38_2
def K38_4 := adv 8 [] K38_3
def K38_5 := adv 11 [true] K38_4
def K38_6 := adv 19 [true] K38_5
def K38_7 := adv 6 [true] K38_6
def K38_8 := adv 3 [] (popK (popK (popK K38_7)))
def K38_9 := adv 10 [] (popK (popK K38_8))
def K38_10 := adv 9 [false] K38_6
def K38_11 := adv 2 [] K38_5
def K38_12 := adv 3 [] (popK K38_11)
def K38_13 := adv 13 [true] K38_12
def K38_14 := adv 6 [true] K38_13
def K38_15 := adv 3 [] (popK (popK (popK K38_14)))
def K38_16 := adv 10 [] (popK (popK K38_15))
def K38_17 := adv 9 [false] K38_13
def K38_18 := adv 2 [] K38_12
def K38_19 := adv 3 [] (popK K38_18)
def K38_20 := adv 7 [true] K38_19
def K38_21 := adv 6 [true] K38_20
def K38_22 := adv 3 [] (popK (popK (popK K38_21)))
def K38_23 := adv 10 [] (popK (popK K38_22))
def K38_24 := adv 9 [false] K38_20
def K38_25 := adv 6 [false] K38_19
def K38_26 := adv 9 [true] K38_25
def K38_27 := adv 6 [false] K38_25
def K38_28 := adv 11 [false] K38_4
set_option maxRecDepth 20000 in
set_option maxHeartbeats 20000000 in
theorem split_any (s : ByteArray) (w : World) (hsz : s.size ≤ 1000000) (hW : TabW w) : Ret Tryd.prog 38 #[.string s] w (fun v w' => ∃ a c a2 c2, v = .tuple #[.slice a ((wF (beforeL 35 (ls s)) [] 1).map Prod.fst).length c, .slice a2 ((wF (beforeL 35 (ls s)) [] 1).map Prod.snd).length c2, iv ((s.size : Int) + 1)] ∧ Sep w [rowOf (enc1 Value.string) a c 9 1 ((wF (beforeL 35 (ls s)) [] 1).map Prod.fst), rowOf Eng.encI a2 c2 3 1 ((wF (beforeL 35 (ls s)) [] 1).map Prod.snd)] w') := by
 have S0 := Sep.refl w
 refine Ret.named fun R hR => ?_
 refine Ret.of_J (N := 58) [(0, .string s)] Tryd.func38 rfl rfl (Nat.le_of_ble_eq_true (by kernel_rfl)) (by kernel_rfl) ?_
 have hbl := before_len 35 (ls s)
 have hll := ls_length s
 refine J.run 11 K38_0 [(9, iv (IntKind.wrap .i64 ((s.size : Int) + 1))), (3, .slice none 0 0), (2, .slice none 0 0), (0, .string s)] w (by kernel_rfl) ?_
 refine J.head (iv ((s.size : Int) + 1)) (congrArg (Value.int .i64) (IntWalk.i64_in _ (by omega))) ?_
 refine J.run 5 K38_1 [(11, .string s), (4, iv ((s.size : Int) + 1)), (3, .slice none 0 0), (2, .slice none 0 0)] w (by kernel_rfl) ?_
 refine J.callF 12 20 #[.string s, .string ⟨#[35]⟩] hb20 (by kernel_rfl) (cut35_any s _ (by omega) (tabW_sep hW S0)) ?_
 rintro _ w1 ⟨rfl, T1⟩
 have S1 : Sep w [] w1 := S0.trans T1
 clear T1
 refine J.run 5 K38_2 [(0, .string (⟨(beforeL 35 (ls s)).toArray⟩ : ByteArray)), (4, iv ((s.size : Int) + 1)), (3, .slice none 0 0), (2, .slice none 0 0)] w1 (by kernel_rfl) ?_
 obtain ⟨x, hx⟩ : ∃ x : ByteArray, x = (⟨(beforeL 35 (ls s)).toArray⟩ : ByteArray) := ⟨_, rfl⟩
 refine J.head (.string x) (congrArg Value.string hx.symm) ?_
 have hx1 : ls x = beforeL 35 (ls s) := by rw [hx]
 have hxl := ls_length x
 rw [hx1] at hxl
 refine J.run 12 K38_3 [(6, iv 0), (5, iv (-1)), (0, .string x), (4, iv ((s.size : Int) + 1)), (3, .slice none 0 0), (2, .slice none 0 0)] w1 (by kernel_rfl) ?_
 have S2 : Sep w [rowOf (enc1 Value.string) none 0 9 1 ([])] w1 := S1.nilRow 9 1
 have S3 : Sep w [rowOf Eng.encI none 0 3 1 ([]), rowOf (enc1 Value.string) none 0 9 1 ([])] w1 := S2.nilRow 3 1
 have L38_1 : ∀ (mm_ : Nat) (ra : Option Addr) (rc : Nat) (A : List ByteArray) (rb : Option Addr) (rd : Nat) (B : List Int) (fr : Int) (i : Int) (w2 : World), (0 ≤ i) → (i ≤ (x.size : Int) + 1) → (-1 ≤ fr ∧ (fr < 0 ∨ fr < i)) → (i ≤ (x.size : Int) ∨ fr < 0) → (((A).length : Int) ≤ i) → (((B).length : Int) ≤ i) → (spQ x (wF (ls x) [] 1) A B i fr) → Sep w [rowOf Eng.encI rb rd 3 1 B, rowOf (enc1 Value.string) ra rc 9 1 A] w2 → ((x.size : Int) + 1 - i).toNat = mm_ → J Tryd.prog 38 58 R K38_3 [(6, iv i), (5, iv fr), (0, .string x), (4, iv ((s.size : Int) + 1)), (3, .slice rb B.length rd), (2, .slice ra A.length rc)] w2 := by
  intro mm1
  induction mm1 using Nat.strongRecOn with
  | _ mm1 ih1 =>
  intro ra rc A rb rd B fr i w2 h0 h1 hfr hfe hAl hBl hQ S4 hm1
  refine J.run 8 K38_4 [(19, .bool (decide (i ≤ (x.size : Int)))), (6, iv i), (5, iv fr), (0, .string x), (4, iv ((s.size : Int) + 1)), (3, .slice rb B.length rd), (2, .slice ra A.length rc)] w2 (by kernel_rfl) ?_
  by_cases fk1 : i ≤ (x.size : Int)
  rotate_left
  ·skip
   refine J.head (.bool false) (congrArg Value.bool (decide_eq_false fk1)) ?_
   refine J.run 11 K38_28 [(4, iv ((s.size : Int) + 1)), (3, .slice rb B.length rd), (2, .slice ra A.length rc)] w2 (by kernel_rfl) ?_
   refine J.ret Tryd.f38 [.slice ra A.length rc, .slice rb B.length rd, iv ((s.size : Int) + 1)] Tryd.func38 ⟨by kernel_rfl, by kernel_rfl, by kernel_rfl, trivial⟩ ?_
   refine hR _ _ ?_
   obtain ⟨eA, eB⟩ := sp_done hQ (by omega) (by omega)
   rw [hx1] at eA eB
   have eN : A.length = ((wF (beforeL 35 (ls s)) [] 1).map Prod.fst).length := by rw [eA]
   have eM : B.length = ((wF (beforeL 35 (ls s)) [] 1).map Prod.snd).length := by rw [eB]
   exact ⟨ra, rc, rb, rd, by rw [eN, eM]; rfl, by rw [← eA, ← eB]; exact S4.two 0 1 rfl rfl (by decide)⟩
  refine J.head (.bool true) (congrArg Value.bool (decide_eq_true fk1)) ?_
  refine J.run 11 K38_5 [(26, .bool (i == (x.size : Int))), (6, iv i), (5, iv fr), (0, .string x), (4, iv ((s.size : Int) + 1)), (3, .slice rb B.length rd), (2, .slice ra A.length rc)] w2 (by kernel_rfl) ?_
  by_cases fk2 : i = (x.size : Int)
  ·skip
   refine J.head (.bool true) (congrArg Value.bool (beq_iff_eq.2 fk2)) ?_
   refine J.run 19 K38_6 [(39, .bool (decide (fr ≥ 0))), (6, iv i), (5, iv fr), (0, .string x), (4, iv ((s.size : Int) + 1)), (3, .slice rb B.length rd), (2, .slice ra A.length rc)] w2 (by kernel_rfl) ?_
   by_cases fk3 : fr ≥ 0
   rotate_left
   ·skip
    refine J.head (.bool false) (congrArg Value.bool (decide_eq_false fk3)) ?_
    refine J.run 9 K38_10 [(21, iv (IntKind.wrap .i64 (i + 1))), (5, iv (-1)), (0, .string x), (4, iv ((s.size : Int) + 1)), (3, .slice rb B.length rd), (2, .slice ra A.length rc)] w2 (by kernel_rfl) ?_
    refine J.head (iv (i + 1)) (congrArg (Value.int .i64) (IntWalk.i64_in _ (by omega))) ?_
    refine J.run 3 K38_3 [(6, iv (i + 1)), (5, iv (-1)), (0, .string x), (4, iv ((s.size : Int) + 1)), (3, .slice rb B.length rd), (2, .slice ra A.length rc)] w2 (by kernel_rfl) ?_
    refine J.run 0 K38_3 [(6, iv (i + 1)), (5, iv (-1)), (0, .string x), (4, iv ((s.size : Int) + 1)), (3, .slice rb B.length rd), (2, .slice ra A.length rc)] w2 (by kernel_rfl) ?_
    exact ih1 _ (show ((x.size : Int) + 1 - (i + 1)).toNat < mm1 from by omega) ra rc A rb rd B (-1) (i + 1) w2 (by omega) (by omega) (by omega) (by omega) (by (try rw [List.length_append, List.length_singleton]); omega) (by (try rw [List.length_append, List.length_singleton]); omega) (sp_stop hQ (by omega) (by omega)) S4 rfl
   refine J.head (.bool true) (congrArg Value.bool (decide_eq_true fk3)) ?_
   refine J.run 6 K38_7 [(43, iv i), (42, iv fr), (41, .string x), (40, .slice ra A.length rc), (6, iv i), (5, iv fr), (0, .string x), (4, iv ((s.size : Int) + 1)), (3, .slice rb B.length rd)] w2 (by kernel_rfl) ?_
   refine J.ok (OK.sliceT 44 9 x (some (iv fr)) (some (iv i)) ((fr).toNat) ((i).toNat) (by kernel_rfl) (by kernel_rfl) (.inr ⟨_, _, rfl, by omega⟩) (.inr ⟨_, _, rfl, by omega⟩) (by first | omega | (simp; omega)) (by first | omega | (simp; omega))) ?_
   have := size_extract x (i := (fr).toNat) (j := (i).toNat) (by first | omega | (simp; omega))
   refine J.newSlice S4 45 1 [.string (x.extract ((fr).toNat) ((i).toNat))] 9 (by kernel_rfl) ?_
   intro b1 w3 S5
   refine J.append (enc1 Value.string) S5 2 A (x.extract ((fr).toNat) ((i).toNat)) 46 49 (.string ByteArray.empty) 16 ⟨b1, 0, none⟩ 1 rfl (by kernel_rfl) (by kernel_rfl) (by kernel_rfl) (by kernel_rfl) (by decide) (box_cells (S5.nth 0 rfl)) (by kernel_rfl) (by kernel_rfl) (⟨by omega, by omega⟩) ?_
   intro ra1 rc1 w4 S6
   replace S6 : Sep w [box b1 [.string (x.extract ((fr).toNat) ((i).toNat))] 9, rowOf Eng.encI rb rd 3 1 B, rowOf (enc1 Value.string) ra1 rc1 9 1 (A ++ [(x.extract ((fr).toNat) ((i).toNat))])] w4 := S6
   have S7 : Sep w [rowOf Eng.encI rb rd 3 1 B, rowOf (enc1 Value.string) ra1 rc1 9 1 (A ++ [(x.extract ((fr).toNat) ((i).toNat))])] w4 := S6.erase 0
   clear S6
   refine J.run 3 K38_8 [(49, iv (IntKind.wrap .i64 (fr + 1))), (47, .slice rb B.length rd), (46, .slice ra1 ((A ++ [(x.extract ((fr).toNat) ((i).toNat))]).length) rc1), (6, iv i), (0, .string x), (4, iv ((s.size : Int) + 1))] w4 (by kernel_rfl) ?_
   refine J.head (iv (fr + 1)) (congrArg (Value.int .i64) (IntWalk.i64_in _ (by omega))) ?_
   refine J.newSlice S7 50 1 [iv (fr + 1)] 3 (by kernel_rfl) ?_
   intro b2 w5 S8
   refine J.append Eng.encI S8 1 B (fr + 1) 51 59 (iv 0) 8 ⟨b2, 0, none⟩ 1 rfl (by kernel_rfl) (by kernel_rfl) (by kernel_rfl) (by kernel_rfl) (by decide) (box_cells (S8.nth 0 rfl)) (by kernel_rfl) (by kernel_rfl) (⟨by omega, by omega⟩) ?_
   intro ra2 rc2 w6 S9
   replace S9 : Sep w [box b2 [iv (fr + 1)] 3, rowOf Eng.encI ra2 rc2 3 1 (B ++ [fr + 1]), rowOf (enc1 Value.string) ra1 rc1 9 1 (A ++ [(x.extract ((fr).toNat) ((i).toNat))])] w6 := S9
   have S10 : Sep w [rowOf Eng.encI ra2 rc2 3 1 (B ++ [fr + 1]), rowOf (enc1 Value.string) ra1 rc1 9 1 (A ++ [(x.extract ((fr).toNat) ((i).toNat))])] w6 := S9.erase 0
   clear S9
   refine J.run 10 K38_9 [(21, iv (IntKind.wrap .i64 (i + 1))), (5, iv (-1)), (3, .slice ra2 ((B ++ [fr + 1]).length) rc2), (2, .slice ra1 ((A ++ [(x.extract ((fr).toNat) ((i).toNat))]).length) rc1), (0, .string x), (4, iv ((s.size : Int) + 1))] w6 (by kernel_rfl) ?_
   refine J.head (iv (i + 1)) (congrArg (Value.int .i64) (IntWalk.i64_in _ (by omega))) ?_
   refine J.run 3 K38_3 [(6, iv (i + 1)), (5, iv (-1)), (3, .slice ra2 ((B ++ [fr + 1]).length) rc2), (2, .slice ra1 ((A ++ [(x.extract ((fr).toNat) ((i).toNat))]).length) rc1), (0, .string x), (4, iv ((s.size : Int) + 1))] w6 (by kernel_rfl) ?_
   refine J.run 0 K38_3 [(6, iv (i + 1)), (5, iv (-1)), (0, .string x), (4, iv ((s.size : Int) + 1)), (3, .slice ra2 ((B ++ [fr + 1]).length) rc2), (2, .slice ra1 ((A ++ [(x.extract ((fr).toNat) ((i).toNat))]).length) rc1)] w6 (by kernel_rfl) ?_
   exact ih1 _ (show ((x.size : Int) + 1 - (i + 1)).toNat < mm1 from by omega) ra1 rc1 (A ++ [(x.extract ((fr).toNat) ((i).toNat))]) ra2 rc2 (B ++ [fr + 1]) (-1) (i + 1) w6 (by omega) (by omega) (by omega) (by omega) (by (try rw [List.length_append, List.length_singleton]); omega) (by (try rw [List.length_append, List.length_singleton]); omega) (sp_end hQ (by omega) (by omega) (by omega)) S10 rfl
  refine J.head (.bool false) (congrArg Value.bool (beq_eq_false_iff_ne.2 fk2)) ?_
  refine J.run 2 K38_11 [(28, iv i), (27, .string x), (26, .bool false), (6, iv i), (5, iv fr), (0, .string x), (4, iv ((s.size : Int) + 1)), (3, .slice rb B.length rd), (2, .slice ra A.length rc)] w2 (by kernel_rfl) ?_
  have := byteAt_bounds x (i).toNat
  refine J.ok (OK.byte 29 9 x i (byteAt x (i).toNat) (by kernel_rfl) (by kernel_rfl) (by omega) (by omega) (rfl)) ?_
  refine J.run 3 K38_12 [(32, .bool ((byteAt x (i).toNat) == 32)), (6, iv i), (5, iv fr), (0, .string x), (4, iv ((s.size : Int) + 1)), (3, .slice rb B.length rd), (2, .slice ra A.length rc)] w2 (by kernel_rfl) ?_
  by_cases fk4 : (byteAt x (i).toNat) = 32
  ·skip
   refine J.head (.bool true) (congrArg Value.bool (beq_iff_eq.2 fk4)) ?_
   refine J.run 13 K38_13 [(39, .bool (decide (fr ≥ 0))), (6, iv i), (5, iv fr), (0, .string x), (4, iv ((s.size : Int) + 1)), (3, .slice rb B.length rd), (2, .slice ra A.length rc)] w2 (by kernel_rfl) ?_
   by_cases fk5 : fr ≥ 0
   rotate_left
   ·skip
    refine J.head (.bool false) (congrArg Value.bool (decide_eq_false fk5)) ?_
    refine J.run 9 K38_17 [(21, iv (IntKind.wrap .i64 (i + 1))), (5, iv (-1)), (0, .string x), (4, iv ((s.size : Int) + 1)), (3, .slice rb B.length rd), (2, .slice ra A.length rc)] w2 (by kernel_rfl) ?_
    refine J.head (iv (i + 1)) (congrArg (Value.int .i64) (IntWalk.i64_in _ (by omega))) ?_
    refine J.run 3 K38_3 [(6, iv (i + 1)), (5, iv (-1)), (0, .string x), (4, iv ((s.size : Int) + 1)), (3, .slice rb B.length rd), (2, .slice ra A.length rc)] w2 (by kernel_rfl) ?_
    refine J.run 0 K38_3 [(6, iv (i + 1)), (5, iv (-1)), (0, .string x), (4, iv ((s.size : Int) + 1)), (3, .slice rb B.length rd), (2, .slice ra A.length rc)] w2 (by kernel_rfl) ?_
    exact ih1 _ (show ((x.size : Int) + 1 - (i + 1)).toNat < mm1 from by omega) ra rc A rb rd B (-1) (i + 1) w2 (by omega) (by omega) (by omega) (by omega) (by (try rw [List.length_append, List.length_singleton]); omega) (by (try rw [List.length_append, List.length_singleton]); omega) (sp_blank hQ (by omega) h0 (by omega) (by omega)) S4 rfl
   refine J.head (.bool true) (congrArg Value.bool (decide_eq_true fk5)) ?_
   refine J.run 6 K38_14 [(43, iv i), (42, iv fr), (41, .string x), (40, .slice ra A.length rc), (6, iv i), (5, iv fr), (0, .string x), (4, iv ((s.size : Int) + 1)), (3, .slice rb B.length rd)] w2 (by kernel_rfl) ?_
   refine J.ok (OK.sliceT 44 9 x (some (iv fr)) (some (iv i)) ((fr).toNat) ((i).toNat) (by kernel_rfl) (by kernel_rfl) (.inr ⟨_, _, rfl, by omega⟩) (.inr ⟨_, _, rfl, by omega⟩) (by first | omega | (simp; omega)) (by first | omega | (simp; omega))) ?_
   have := size_extract x (i := (fr).toNat) (j := (i).toNat) (by first | omega | (simp; omega))
   refine J.newSlice S4 45 1 [.string (x.extract ((fr).toNat) ((i).toNat))] 9 (by kernel_rfl) ?_
   intro b3 w7 S11
   refine J.append (enc1 Value.string) S11 2 A (x.extract ((fr).toNat) ((i).toNat)) 46 49 (.string ByteArray.empty) 16 ⟨b3, 0, none⟩ 1 rfl (by kernel_rfl) (by kernel_rfl) (by kernel_rfl) (by kernel_rfl) (by decide) (box_cells (S11.nth 0 rfl)) (by kernel_rfl) (by kernel_rfl) (⟨by omega, by omega⟩) ?_
   intro ra3 rc3 w8 S12
   replace S12 : Sep w [box b3 [.string (x.extract ((fr).toNat) ((i).toNat))] 9, rowOf Eng.encI rb rd 3 1 B, rowOf (enc1 Value.string) ra3 rc3 9 1 (A ++ [(x.extract ((fr).toNat) ((i).toNat))])] w8 := S12
   have S13 : Sep w [rowOf Eng.encI rb rd 3 1 B, rowOf (enc1 Value.string) ra3 rc3 9 1 (A ++ [(x.extract ((fr).toNat) ((i).toNat))])] w8 := S12.erase 0
   clear S12
   refine J.run 3 K38_15 [(49, iv (IntKind.wrap .i64 (fr + 1))), (47, .slice rb B.length rd), (46, .slice ra3 ((A ++ [(x.extract ((fr).toNat) ((i).toNat))]).length) rc3), (6, iv i), (0, .string x), (4, iv ((s.size : Int) + 1))] w8 (by kernel_rfl) ?_
   refine J.head (iv (fr + 1)) (congrArg (Value.int .i64) (IntWalk.i64_in _ (by omega))) ?_
   refine J.newSlice S13 50 1 [iv (fr + 1)] 3 (by kernel_rfl) ?_
   intro b4 w9 S14
   refine J.append Eng.encI S14 1 B (fr + 1) 51 59 (iv 0) 8 ⟨b4, 0, none⟩ 1 rfl (by kernel_rfl) (by kernel_rfl) (by kernel_rfl) (by kernel_rfl) (by decide) (box_cells (S14.nth 0 rfl)) (by kernel_rfl) (by kernel_rfl) (⟨by omega, by omega⟩) ?_
   intro ra4 rc4 w10 S15
   replace S15 : Sep w [box b4 [iv (fr + 1)] 3, rowOf Eng.encI ra4 rc4 3 1 (B ++ [fr + 1]), rowOf (enc1 Value.string) ra3 rc3 9 1 (A ++ [(x.extract ((fr).toNat) ((i).toNat))])] w10 := S15
   have S16 : Sep w [rowOf Eng.encI ra4 rc4 3 1 (B ++ [fr + 1]), rowOf (enc1 Value.string) ra3 rc3 9 1 (A ++ [(x.extract ((fr).toNat) ((i).toNat))])] w10 := S15.erase 0
   clear S15
   refine J.run 10 K38_16 [(21, iv (IntKind.wrap .i64 (i + 1))), (5, iv (-1)), (3, .slice ra4 ((B ++ [fr + 1]).length) rc4), (2, .slice ra3 ((A ++ [(x.extract ((fr).toNat) ((i).toNat))]).length) rc3), (0, .string x), (4, iv ((s.size : Int) + 1))] w10 (by kernel_rfl) ?_
   refine J.head (iv (i + 1)) (congrArg (Value.int .i64) (IntWalk.i64_in _ (by omega))) ?_
   refine J.run 3 K38_3 [(6, iv (i + 1)), (5, iv (-1)), (3, .slice ra4 ((B ++ [fr + 1]).length) rc4), (2, .slice ra3 ((A ++ [(x.extract ((fr).toNat) ((i).toNat))]).length) rc3), (0, .string x), (4, iv ((s.size : Int) + 1))] w10 (by kernel_rfl) ?_
   refine J.run 0 K38_3 [(6, iv (i + 1)), (5, iv (-1)), (0, .string x), (4, iv ((s.size : Int) + 1)), (3, .slice ra4 ((B ++ [fr + 1]).length) rc4), (2, .slice ra3 ((A ++ [(x.extract ((fr).toNat) ((i).toNat))]).length) rc3)] w10 (by kernel_rfl) ?_
   exact ih1 _ (show ((x.size : Int) + 1 - (i + 1)).toNat < mm1 from by omega) ra3 rc3 (A ++ [(x.extract ((fr).toNat) ((i).toNat))]) ra4 rc4 (B ++ [fr + 1]) (-1) (i + 1) w10 (by omega) (by omega) (by omega) (by omega) (by (try rw [List.length_append, List.length_singleton]); omega) (by (try rw [List.length_append, List.length_singleton]); omega) (sp_out hQ (by omega) (by omega) (by omega) (by omega)) S16 rfl
  refine J.head (.bool false) (congrArg Value.bool (beq_eq_false_iff_ne.2 fk4)) ?_
  refine J.run 2 K38_18 [(34, iv i), (33, .string x), (32, .bool false), (6, iv i), (5, iv fr), (0, .string x), (4, iv ((s.size : Int) + 1)), (3, .slice rb B.length rd), (2, .slice ra A.length rc)] w2 (by kernel_rfl) ?_
  have := byteAt_bounds x (i).toNat
  refine J.ok (OK.byte 35 9 x i (byteAt x (i).toNat) (by kernel_rfl) (by kernel_rfl) (by omega) (by omega) (rfl)) ?_
  refine J.run 3 K38_19 [(37, .bool ((byteAt x (i).toNat) == 9)), (6, iv i), (5, iv fr), (0, .string x), (4, iv ((s.size : Int) + 1)), (3, .slice rb B.length rd), (2, .slice ra A.length rc)] w2 (by kernel_rfl) ?_
  by_cases fk6 : (byteAt x (i).toNat) = 9
  rotate_left
  ·skip
   refine J.head (.bool false) (congrArg Value.bool (beq_eq_false_iff_ne.2 fk6)) ?_
   refine J.run 6 K38_25 [(53, .bool (decide (fr < 0))), (6, iv i), (5, iv fr), (0, .string x), (4, iv ((s.size : Int) + 1)), (3, .slice rb B.length rd), (2, .slice ra A.length rc)] w2 (by kernel_rfl) ?_
   by_cases fk8 : fr < 0
   ·skip
    refine J.head (.bool true) (congrArg Value.bool (decide_eq_true fk8)) ?_
    refine J.run 9 K38_26 [(21, iv (IntKind.wrap .i64 (i + 1))), (5, iv i), (0, .string x), (4, iv ((s.size : Int) + 1)), (3, .slice rb B.length rd), (2, .slice ra A.length rc)] w2 (by kernel_rfl) ?_
    refine J.head (iv (i + 1)) (congrArg (Value.int .i64) (IntWalk.i64_in _ (by omega))) ?_
    refine J.run 3 K38_3 [(6, iv (i + 1)), (5, iv i), (0, .string x), (4, iv ((s.size : Int) + 1)), (3, .slice rb B.length rd), (2, .slice ra A.length rc)] w2 (by kernel_rfl) ?_
    refine J.run 0 K38_3 [(6, iv (i + 1)), (5, iv i), (0, .string x), (4, iv ((s.size : Int) + 1)), (3, .slice rb B.length rd), (2, .slice ra A.length rc)] w2 (by kernel_rfl) ?_
    exact ih1 _ (show ((x.size : Int) + 1 - (i + 1)).toNat < mm1 from by omega) ra rc A rb rd B i (i + 1) w2 (by omega) (by omega) (by omega) (by omega) (by (try rw [List.length_append, List.length_singleton]); omega) (by (try rw [List.length_append, List.length_singleton]); omega) (sp_open hQ (by omega) h0 (by omega) (by omega) (by omega)) S4 rfl
   refine J.head (.bool false) (congrArg Value.bool (decide_eq_false fk8)) ?_
   refine J.run 6 K38_27 [(21, iv (IntKind.wrap .i64 (i + 1))), (5, iv fr), (0, .string x), (4, iv ((s.size : Int) + 1)), (3, .slice rb B.length rd), (2, .slice ra A.length rc)] w2 (by kernel_rfl) ?_
   refine J.head (iv (i + 1)) (congrArg (Value.int .i64) (IntWalk.i64_in _ (by omega))) ?_
   refine J.run 3 K38_3 [(6, iv (i + 1)), (5, iv fr), (0, .string x), (4, iv ((s.size : Int) + 1)), (3, .slice rb B.length rd), (2, .slice ra A.length rc)] w2 (by kernel_rfl) ?_
   refine J.run 0 K38_3 [(6, iv (i + 1)), (5, iv fr), (0, .string x), (4, iv ((s.size : Int) + 1)), (3, .slice rb B.length rd), (2, .slice ra A.length rc)] w2 (by kernel_rfl) ?_
   exact ih1 _ (show ((x.size : Int) + 1 - (i + 1)).toNat < mm1 from by omega) ra rc A rb rd B fr (i + 1) w2 (by omega) (by omega) (by omega) (by omega) (by (try rw [List.length_append, List.length_singleton]); omega) (by (try rw [List.length_append, List.length_singleton]); omega) (sp_in hQ (by omega) (by omega) (by omega) (by omega) (by omega)) S4 rfl
  refine J.head (.bool true) (congrArg Value.bool (beq_iff_eq.2 fk6)) ?_
  refine J.run 7 K38_20 [(39, .bool (decide (fr ≥ 0))), (6, iv i), (5, iv fr), (0, .string x), (4, iv ((s.size : Int) + 1)), (3, .slice rb B.length rd), (2, .slice ra A.length rc)] w2 (by kernel_rfl) ?_
  by_cases fk7 : fr ≥ 0
  rotate_left
  ·skip
   refine J.head (.bool false) (congrArg Value.bool (decide_eq_false fk7)) ?_
   refine J.run 9 K38_24 [(21, iv (IntKind.wrap .i64 (i + 1))), (5, iv (-1)), (0, .string x), (4, iv ((s.size : Int) + 1)), (3, .slice rb B.length rd), (2, .slice ra A.length rc)] w2 (by kernel_rfl) ?_
   refine J.head (iv (i + 1)) (congrArg (Value.int .i64) (IntWalk.i64_in _ (by omega))) ?_
   refine J.run 3 K38_3 [(6, iv (i + 1)), (5, iv (-1)), (0, .string x), (4, iv ((s.size : Int) + 1)), (3, .slice rb B.length rd), (2, .slice ra A.length rc)] w2 (by kernel_rfl) ?_
   refine J.run 0 K38_3 [(6, iv (i + 1)), (5, iv (-1)), (0, .string x), (4, iv ((s.size : Int) + 1)), (3, .slice rb B.length rd), (2, .slice ra A.length rc)] w2 (by kernel_rfl) ?_
   exact ih1 _ (show ((x.size : Int) + 1 - (i + 1)).toNat < mm1 from by omega) ra rc A rb rd B (-1) (i + 1) w2 (by omega) (by omega) (by omega) (by omega) (by (try rw [List.length_append, List.length_singleton]); omega) (by (try rw [List.length_append, List.length_singleton]); omega) (sp_blank hQ (by omega) h0 (by omega) (by omega)) S4 rfl
  refine J.head (.bool true) (congrArg Value.bool (decide_eq_true fk7)) ?_
  refine J.run 6 K38_21 [(43, iv i), (42, iv fr), (41, .string x), (40, .slice ra A.length rc), (6, iv i), (5, iv fr), (0, .string x), (4, iv ((s.size : Int) + 1)), (3, .slice rb B.length rd)] w2 (by kernel_rfl) ?_
  refine J.ok (OK.sliceT 44 9 x (some (iv fr)) (some (iv i)) ((fr).toNat) ((i).toNat) (by kernel_rfl) (by kernel_rfl) (.inr ⟨_, _, rfl, by omega⟩) (.inr ⟨_, _, rfl, by omega⟩) (by first | omega | (simp; omega)) (by first | omega | (simp; omega))) ?_
  have := size_extract x (i := (fr).toNat) (j := (i).toNat) (by first | omega | (simp; omega))
  refine J.newSlice S4 45 1 [.string (x.extract ((fr).toNat) ((i).toNat))] 9 (by kernel_rfl) ?_
  intro b5 w11 S17
  refine J.append (enc1 Value.string) S17 2 A (x.extract ((fr).toNat) ((i).toNat)) 46 49 (.string ByteArray.empty) 16 ⟨b5, 0, none⟩ 1 rfl (by kernel_rfl) (by kernel_rfl) (by kernel_rfl) (by kernel_rfl) (by decide) (box_cells (S17.nth 0 rfl)) (by kernel_rfl) (by kernel_rfl) (⟨by omega, by omega⟩) ?_
  intro ra5 rc5 w12 S18
  replace S18 : Sep w [box b5 [.string (x.extract ((fr).toNat) ((i).toNat))] 9, rowOf Eng.encI rb rd 3 1 B, rowOf (enc1 Value.string) ra5 rc5 9 1 (A ++ [(x.extract ((fr).toNat) ((i).toNat))])] w12 := S18
  have S19 : Sep w [rowOf Eng.encI rb rd 3 1 B, rowOf (enc1 Value.string) ra5 rc5 9 1 (A ++ [(x.extract ((fr).toNat) ((i).toNat))])] w12 := S18.erase 0
  clear S18
  refine J.run 3 K38_22 [(49, iv (IntKind.wrap .i64 (fr + 1))), (47, .slice rb B.length rd), (46, .slice ra5 ((A ++ [(x.extract ((fr).toNat) ((i).toNat))]).length) rc5), (6, iv i), (0, .string x), (4, iv ((s.size : Int) + 1))] w12 (by kernel_rfl) ?_
  refine J.head (iv (fr + 1)) (congrArg (Value.int .i64) (IntWalk.i64_in _ (by omega))) ?_
  refine J.newSlice S19 50 1 [iv (fr + 1)] 3 (by kernel_rfl) ?_
  intro b6 w13 S20
  refine J.append Eng.encI S20 1 B (fr + 1) 51 59 (iv 0) 8 ⟨b6, 0, none⟩ 1 rfl (by kernel_rfl) (by kernel_rfl) (by kernel_rfl) (by kernel_rfl) (by decide) (box_cells (S20.nth 0 rfl)) (by kernel_rfl) (by kernel_rfl) (⟨by omega, by omega⟩) ?_
  intro ra6 rc6 w14 S21
  replace S21 : Sep w [box b6 [iv (fr + 1)] 3, rowOf Eng.encI ra6 rc6 3 1 (B ++ [fr + 1]), rowOf (enc1 Value.string) ra5 rc5 9 1 (A ++ [(x.extract ((fr).toNat) ((i).toNat))])] w14 := S21
  have S22 : Sep w [rowOf Eng.encI ra6 rc6 3 1 (B ++ [fr + 1]), rowOf (enc1 Value.string) ra5 rc5 9 1 (A ++ [(x.extract ((fr).toNat) ((i).toNat))])] w14 := S21.erase 0
  clear S21
  refine J.run 10 K38_23 [(21, iv (IntKind.wrap .i64 (i + 1))), (5, iv (-1)), (3, .slice ra6 ((B ++ [fr + 1]).length) rc6), (2, .slice ra5 ((A ++ [(x.extract ((fr).toNat) ((i).toNat))]).length) rc5), (0, .string x), (4, iv ((s.size : Int) + 1))] w14 (by kernel_rfl) ?_
  refine J.head (iv (i + 1)) (congrArg (Value.int .i64) (IntWalk.i64_in _ (by omega))) ?_
  refine J.run 3 K38_3 [(6, iv (i + 1)), (5, iv (-1)), (3, .slice ra6 ((B ++ [fr + 1]).length) rc6), (2, .slice ra5 ((A ++ [(x.extract ((fr).toNat) ((i).toNat))]).length) rc5), (0, .string x), (4, iv ((s.size : Int) + 1))] w14 (by kernel_rfl) ?_
  refine J.run 0 K38_3 [(6, iv (i + 1)), (5, iv (-1)), (0, .string x), (4, iv ((s.size : Int) + 1)), (3, .slice ra6 ((B ++ [fr + 1]).length) rc6), (2, .slice ra5 ((A ++ [(x.extract ((fr).toNat) ((i).toNat))]).length) rc5)] w14 (by kernel_rfl) ?_
  exact ih1 _ (show ((x.size : Int) + 1 - (i + 1)).toNat < mm1 from by omega) ra5 rc5 (A ++ [(x.extract ((fr).toNat) ((i).toNat))]) ra6 rc6 (B ++ [fr + 1]) (-1) (i + 1) w14 (by omega) (by omega) (by omega) (by omega) (by (try rw [List.length_append, List.length_singleton]); omega) (by (try rw [List.length_append, List.length_singleton]); omega) (sp_out hQ (by omega) (by omega) (by omega) (by omega)) S22 rfl
 exact L38_1 _ none 0 ([]) none 0 ([]) (-1) 0 w1 (by omega) (by omega) (by omega) (by omega) (by simp) (by simp) (sp_first x) S3 rfl

end
end Go.Proofs.YthiklimfffhbaaaDoor

