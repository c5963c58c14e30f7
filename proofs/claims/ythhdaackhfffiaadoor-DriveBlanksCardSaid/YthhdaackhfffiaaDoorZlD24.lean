/- Walks of functions of this seat, printed by a program over the engine. Conditions: as each theorem says. -/
import Derived.Test.YthhdaackhfffiaaDoorZlD23
import Derived.Test.YthhdaackhfffiaaDoorZlEng14
namespace Go.Proofs.YthhdaackhfffiaaDoor
open Go.Eng Go.RowKit
set_option linter.unusedSimpArgs false
set_option linter.unusedVariables false
/-! further blanks, comments and empty lines -/
def fillAt (fl : List Int) (k : Nat) : Int := if k < fl.length then fl.getD k 0 % 4 else 0
def preB (cm : List UInt8) (c : UInt8) (f : Int) : List UInt8 := if c = 32 then List.replicate f.toNat 32 else if c = 10 ∧ 0 < f then [32, 35] ++ cm else []
def postB (c : UInt8) (f : Int) : List UInt8 := if c = 10 ∧ f = 3 then [10, 32, 32, 10] else []
def blankP (cm : List UInt8) (fl : List Int) (T : List UInt8) : Nat → List UInt8
  | 0 => []
  | n + 1 => blankP cm fl T n ++ (preB cm (T.getD n 0) (fillAt fl n) ++ T.getD n 0 :: postB (T.getD n 0) (fillAt fl n))
theorem blankP_succ {cm : List UInt8} {fl : List Int} {T : List UInt8} {i : Int} (h : 0 ≤ i) : blankP cm fl T (i + 1).toNat = blankP cm fl T i.toNat ++ (preB cm (T.getD i.toNat 0) (fillAt fl i.toNat) ++ T.getD i.toNat 0 :: postB (T.getD i.toNat 0) (fillAt fl i.toNat)) := by
  rw [show (i + 1).toNat = i.toNat + 1 by omega]; rfl
theorem wd_skip : ∀ (n : Nat) (r : List UInt8) (l : List ByteArray), wdT (List.replicate n 32 ++ r) [] false l = wdT r [] false l
  | 0, _, _ => rfl
  | n + 1, r, l => by
    rw [List.replicate_succ, List.cons_append, wdT, if_neg (by decide), if_neg (show ¬ (false = true) by decide), if_neg (by decide), if_pos rfl]
    show wdT (List.replicate n 32 ++ r) [] false (l ++ []) = _
    rw [List.append_nil, wd_skip n r l]
theorem wd_com : ∀ (cm r : List UInt8) (l : List ByteArray), 10 ∉ cm → wdT (cm ++ r) [] true l = wdT r [] true l
  | [], _, _, _ => rfl
  | c :: cm, r, l, h => by
    rw [List.cons_append, wdT, if_neg (fun e => h (by rw [e]; exact List.mem_cons_self)), if_pos rfl, wd_com cm r l (fun h2 => h (List.mem_cons_of_mem _ h2))]
theorem wd_pre {cm : List UInt8} (hcm : 10 ∉ cm) (c : UInt8) (f : Int) (r cur : List UInt8) (k : Bool) (l : List ByteArray) (hk : k = true → cur = []) : wdT (preB cm c f ++ c :: r) cur k l = wdT (c :: r) cur k l := by
  unfold preB
  by_cases h1 : c = 32
  · rw [if_pos h1]
    subst h1
    cases k with
    | true =>
      rw [hk rfl]
      have : ∀ (n : Nat) (r : List UInt8), wdT (List.replicate n 32 ++ r) [] true l = wdT r [] true l := fun n r => wd_com _ r l (fun h => by have := List.eq_of_mem_replicate h; exact absurd this (by decide))
      exact this _ _
    | false =>
      cases hn : f.toNat with
      | zero => rfl
      | succ n =>
        rw [List.replicate_succ, List.cons_append, wdT, if_neg (by decide), if_neg (show ¬ (false = true) by decide), if_neg (by decide), if_pos rfl, wd_skip]
        rw [wdT, if_neg (by decide), if_neg (show ¬ (false = true) by decide), if_neg (by decide), if_pos rfl, wdT, if_neg (by decide), if_neg (show ¬ (false = true) by decide), if_neg (by decide), if_pos rfl]
        show wdT r [] false (l ++ flT cur ++ []) = _
        rw [List.append_nil]
  · rw [if_neg h1]
    by_cases h2 : c = 10 ∧ 0 < f
    · rw [if_pos h2]
      obtain ⟨h2, _⟩ := h2
      subst h2
      cases k with
      | true =>
        rw [hk rfl]
        exact wd_com ([32, 35] ++ cm) (10 :: r) l (fun h => by rcases List.mem_append.1 h with h | h; · exact absurd h (by decide)
                                                               · exact hcm h)
      | false =>
        show wdT (32 :: 35 :: (cm ++ 10 :: r)) cur false l = _
        rw [wdT, if_neg (by decide), if_neg (show ¬ (false = true) by decide), if_neg (by decide), if_pos rfl, wdT, if_neg (by decide), if_neg (show ¬ (false = true) by decide), if_pos rfl, wd_com _ _ _ hcm, wdT, if_pos rfl, wdT, if_pos rfl]
        show consT (l ++ flT cur ++ [] ++ []) _ = _
        rw [List.append_nil, List.append_nil]
    · rw [if_neg h2]; rfl
theorem wd_post (f : Int) (r : List UInt8) : wdT (postB 10 f ++ r) [] false [] = wdT r [] false [] := by
  unfold postB
  split
  · show wdT (10 :: 32 :: 32 :: 10 :: r) [] false [] = _
    rw [wdT, if_pos rfl, wdT, if_neg (by decide), if_neg (show ¬ (false = true) by decide), if_neg (by decide), if_pos rfl, wdT, if_neg (by decide), if_neg (show ¬ (false = true) by decide), if_neg (by decide), if_pos rfl, wdT, if_pos rfl]; rfl
  · rfl
theorem wd_step {cm : List UInt8} (hcm : 10 ∉ cm) (c : UInt8) (f : Int) (r r2 cur : List UInt8) (k : Bool) (l : List ByteArray) (hk : k = true → cur = []) (h : ∀ cur k l, (k = true → cur = []) → wdT r cur k l = wdT r2 cur k l) : wdT (preB cm c f ++ c :: (postB c f ++ r)) cur k l = wdT (c :: r2) cur k l := by
  rw [wd_pre hcm c f _ cur k l hk, wdT, wdT]
  by_cases h1 : c = 10
  · rw [if_pos h1, if_pos h1, h1, wd_post, h [] false [] (fun h => by cases h)]
  · rw [if_neg h1, if_neg h1, show postB c f = [] from if_neg (fun h => h1 h.1), List.nil_append]
    cases k with
    | true => rw [if_pos rfl, if_pos rfl, h [] true l (fun _ => rfl)]
    | false =>
      rw [if_neg (show ¬ (false = true) by decide), if_neg (show ¬ (false = true) by decide), h [] true _ (fun _ => rfl), h [] false _ (fun h => by cases h), h (cur ++ [c]) false l (fun h => by cases h)]
/-- the text from place n on, with what is put in -/
def blankQ (cm : List UInt8) (fl : List Int) : List UInt8 → Nat → List UInt8
  | [], _ => []
  | c :: r, n => preB cm c (fillAt fl n) ++ c :: (postB c (fillAt fl n) ++ blankQ cm fl r (n + 1))
theorem wd_blank {cm : List UInt8} (hcm : 10 ∉ cm) (fl : List Int) : ∀ (r : List UInt8) (n : Nat) (cur : List UInt8) (k : Bool) (l : List ByteArray), (k = true → cur = []) → wdT (blankQ cm fl r n) cur k l = wdT r cur k l
  | [], _, _, _, _, _ => rfl
  | c :: r, n, cur, k, l, hk => wd_step hcm c _ _ r cur k l hk (fun cur k l h => wd_blank hcm fl r (n + 1) cur k l h)
theorem blankPQ (cm : List UInt8) (fl : List Int) (T : List UInt8) : ∀ (m n : Nat), n + m = T.length → blankP cm fl T n ++ blankQ cm fl (T.drop n) n = blankP cm fl T T.length
  | 0, n, h => by
    have : n = T.length := by omega
    subst this
    rw [List.drop_length]; exact List.append_nil _
  | m + 1, n, h => by
    rw [← blankPQ cm fl T m (n + 1) (by omega), List.drop_eq_getElem_cons (show n < T.length by omega)]
    show _ ++ (preB cm T[n] (fillAt fl n) ++ T[n] :: (postB T[n] (fillAt fl n) ++ blankQ cm fl (T.drop (n + 1)) (n + 1))) = (blankP cm fl T n ++ (preB cm (T.getD n 0) (fillAt fl n) ++ T.getD n 0 :: postB (T.getD n 0) (fillAt fl n))) ++ _
    rw [List.getD_eq_getElem?_getD, List.getElem?_eq_getElem (show n < T.length by omega), Option.getD_some, List.append_assoc, List.append_assoc, List.cons_append]
theorem par_blank {l : List Dr} {t : ByteArray} {cm : List UInt8} {fl : List Int} (hv : validD l = true) (hcm : 10 ∉ cm) (ht : ls t = blankP cm fl (ls (textD l)) (ls (textD l)).length) (hs : t.size ≤ 16384) : parF t = ⟨l, 0, 0, 0⟩ := by
  have h1 : ls t = blankQ cm fl (ls (textD l)) 0 := by rw [ht, ← blankPQ cm fl (ls (textD l)) _ 0 (Nat.zero_add _)]; rfl
  unfold parF
  rw [if_neg (by omega), par_words _ l [] (by rw [lines_tx, h1, wd_blank hcm fl _ 0 [] false [] (fun h => by cases h), textD_ls hv, wd_text]) (by rw [List.nil_append]; exact hv)]; rfl
theorem no_ten {x : ByteArray} (h : (bytesI x).any (fun c => 10 == c) = false) : 10 ∉ ls x := by
  intro hm
  rw [List.any_eq_false] at h
  exact h 10 (List.mem_map.2 ⟨10, hm, rfl⟩) rfl

theorem hb40 : HasBody Tryd.prog 40 := fun _ _ => by kernel_rfl
noncomputable def K40_0 : List Item := adv 13 [] (bodyOf Tryd.f40)
noncomputable def K40_1 : List Item := adv 5 [] K40_0
noncomputable def K40_2 : List Item := adv 14 [true] K40_1
noncomputable def K40_3 : List Item := adv 2 [] (popK (popK K40_2))
noncomputable def K40_4 : List Item := adv 6 [true] K40_3
noncomputable def K40_5 : List Item := adv 5 [false] K40_3
noncomputable def K40_6 : List Item := adv 6 [false] K40_1
set_option maxRecDepth 20000 in
set_option maxHeartbeats 20000000 in
theorem index8_any (a : Option Addr) (n c : Nat) (l : List Int) (x : Int) (w : World) (hI : Ones (Value.int .u8) w a n l) (hn : n ≤ 9223372036854775807) : Ret Tryd.prog 40 #[.slice a n c, .int .u8 x] w (fun v w' => v = iv (indexF (fun c => x == c) l) ∧ Sep w [] w') := by
 have S0 := Sep.refl w
 refine Ret.named fun R hR => ?_
 refine Ret.of_J (N := 19) [(0, .slice a n c), (1, .int .u8 x)] Tryd.func40 rfl rfl (Nat.le_of_ble_eq_true (by kernel_rfl)) (by kernel_rfl) ?_
 refine J.run 13 K40_0 [(8, iv 0), (7, iv (n : Int)), (0, .slice a n c), (1, .int .u8 x)] w (by kernel_rfl) ?_
 have L40_1 : ∀ (mm_ : Nat) (i : Int) (w1 : World), (0 ≤ i) → (i ≤ (n : Int)) → (∀ j, j < (i).toNat → (x == l.getD j 0) = false) → Sep w [] w1 → ((n : Int) - i).toNat = mm_ → J Tryd.prog 40 19 R K40_0 [(8, iv i), (7, iv (n : Int)), (0, .slice a n c), (1, .int .u8 x)] w1 := by
  intro mm1
  induction mm1 using Nat.strongRecOn with
  | _ mm1 ih1 =>
  intro i w1 h0 h1 hq S1 hm1
  refine J.run 5 K40_1 [(9, .bool (decide (i < (n : Int)))), (8, iv i), (7, iv (n : Int)), (0, .slice a n c), (1, .int .u8 x)] w1 (by kernel_rfl) ?_
  by_cases fk1 : i < (n : Int)
  ·skip
   refine J.head (.bool true) (congrArg Value.bool (decide_eq_true fk1)) ?_
   refine J.run 14 K40_2 [(13, iv i), (12, .slice a n c), (11, .int .u8 x), (5, iv i), (8, iv i), (7, iv (n : Int)), (0, .slice a n c), (1, .int .u8 x)] w1 (by kernel_rfl) ?_
   obtain ⟨p1, hp1, hc1⟩ := hI.at 0 (i).toNat (by omega)
   refine J.ok (OK.index 14 45 1 a p1 n (i).toNat i (p1.add (i).toNat) (by kernel_rfl) (by kernel_rfl) hp1 (by omega) (by omega) (by rw [Nat.mul_one])) ?_
   refine J.ok (OK.ldCell 15 5 (p1.add (i).toNat) (.int .u8 (l.getD (i).toNat 0)) (by kernel_rfl) (by kernel_rfl) (S1.cell hc1)) ?_
   refine J.run 2 K40_3 [(16, .bool (x == (l.getD (i).toNat 0))), (5, iv i), (8, iv i), (7, iv (n : Int)), (0, .slice a n c), (1, .int .u8 x)] w1 (by kernel_rfl) ?_
   by_cases fk2 : x = (l.getD (i).toNat 0)
   ·skip
    refine J.head (.bool true) (congrArg Value.bool (beq_iff_eq.2 fk2)) ?_
    refine J.run 6 K40_4 [(4, iv i)] w1 (by kernel_rfl) ?_
    refine J.ret Tryd.f40 [iv i] Tryd.func40 ⟨by kernel_rfl, trivial⟩ ?_
    refine hR _ _ ?_
    exact ⟨by rw [tup_one, indexF_some 0 i.toNat (by have := hI.len_eq; omega) hq (beq_iff_eq.2 (by omega)), Int.toNat_of_nonneg h0], S1.nil⟩
   ·skip
    refine J.head (.bool false) (congrArg Value.bool (beq_eq_false_iff_ne.2 fk2)) ?_
    refine J.run 5 K40_5 [(18, iv (IntKind.wrap .i64 (i + 1))), (7, iv (n : Int)), (0, .slice a n c), (1, .int .u8 x)] w1 (by kernel_rfl) ?_
    refine J.head (iv (i + 1)) (congrArg (Value.int .i64) (IntWalk.i64_in _ (by omega))) ?_
    refine J.run 3 K40_0 [(8, iv (i + 1)), (7, iv (n : Int)), (0, .slice a n c), (1, .int .u8 x)] w1 (by kernel_rfl) ?_
    refine J.run 0 K40_0 [(8, iv (i + 1)), (7, iv (n : Int)), (0, .slice a n c), (1, .int .u8 x)] w1 (by kernel_rfl) ?_
    exact ih1 _ (show ((n : Int) - (i + 1)).toNat < mm1 from by omega) (i + 1) w1 (by omega) (by omega) (dg_step (q := fun j => (x == l.getD j 0) = false) h0 hq (beq_eq_false_iff_ne.2 (by omega))) S1 rfl
  ·skip
   refine J.head (.bool false) (congrArg Value.bool (decide_eq_false fk1)) ?_
   refine J.run 6 K40_6 [(4, iv (-1))] w1 (by kernel_rfl) ?_
   refine J.ret Tryd.f40 [iv (-1)] Tryd.func40 ⟨by kernel_rfl, trivial⟩ ?_
   refine hR _ _ ?_
   exact ⟨by rw [tup_one, indexF_none 0 fun j hj => hq j (by have := hI.len_eq; omega)], S1.nil⟩
 exact L40_1 _ 0 w (by omega) (by omega) (by intro j hj; simp at hj) S0 rfl

theorem hb22 : HasBody Tryd.prog 22 := fun _ _ => by kernel_rfl
noncomputable def K22_0 : List Item := adv 8 [] (bodyOf Tryd.f22)
noncomputable def K22_1 : List Item := adv 3 [] (popK K22_0)
set_option maxRecDepth 20000 in
set_option maxHeartbeats 20000000 in
theorem contains8_any (a : Option Addr) (n c : Nat) (l : List Int) (x : Int) (w : World) (hI : Ones (Value.int .u8) w a n l) (hn : n ≤ 9223372036854775807) : Ret Tryd.prog 22 #[.slice a n c, .int .u8 x] w (fun v w' => v = .bool (l.any (fun c => x == c)) ∧ Sep w [] w') := by
 have S0 := Sep.refl w
 refine Ret.named fun R hR => ?_
 refine Ret.of_J (N := 9) [(0, .slice a n c), (1, .int .u8 x)] Tryd.func22 rfl rfl (Nat.le_of_ble_eq_true (by kernel_rfl)) (by kernel_rfl) ?_
 refine J.run 8 K22_0 [(6, .int .u8 x), (5, .slice a n c)] w (by kernel_rfl) ?_
 refine J.callF 7 40 #[.slice a n c, .int .u8 x] hb40 (by kernel_rfl) (index8_any a n c l x _ (hI.sep S0) (by omega)) ?_
 rintro _ w1 ⟨rfl, T1⟩
 have S1 : Sep w [] w1 := S0.trans T1
 clear T1
 refine J.run 3 K22_1 [(4, .bool (decide ((indexF (fun c => x == c) l) ≥ 0)))] w1 (by kernel_rfl) ?_
 refine J.ret Tryd.f22 [.bool (decide ((indexF (fun c => x == c) l) ≥ 0))] Tryd.func22 ⟨by kernel_rfl, trivial⟩ ?_
 refine hR _ _ ?_
 exact ⟨congrArg Value.bool indexF_nonneg, S1.nil⟩

noncomputable def K7_0 : List Item := adv 7 [] (bodyOf Tryd.f7)
noncomputable def K7_1 : List Item := adv 7 [] (popK K7_0)
noncomputable def K7_2 : List Item := adv 13 [true] K7_1
noncomputable def K7_3 : List Item := adv 2 [] (popK K7_2)
noncomputable def K7_4 : List Item := adv 5 [] K7_1
noncomputable def K7_5 : List Item := adv 8 [true] K7_4
noncomputable def K7_6 : List Item := adv 2 [] (popK K7_5)
noncomputable def K7_7 : List Item := adv 1 [] K7_4
noncomputable def K7_8 : List Item := adv 2 [] (popK (popK K7_7))
noncomputable def K7_9 : List Item := adv 3 [true] K7_8
noncomputable def K7_10 : List Item := adv 2 [] (popK K7_9)
noncomputable def K7_11 : List Item := adv 5 [false] K7_8
noncomputable def K7_12 : List Item := adv 12 [] (popK K7_11)
noncomputable def K7_13 : List Item := adv 14 [false] K7_12
noncomputable def K7_14 : List Item := adv 5 [] (popK K7_13)
noncomputable def K7_15 : List Item := adv 5 [] K7_14
noncomputable def K7_16 : List Item := adv 6 [true] K7_15
noncomputable def K7_17 : List Item := adv 14 [] (popK (popK K7_16))
noncomputable def K7_18 : List Item := List.drop 1 K7_17
noncomputable def K7_19 : List Item := adv 4 [] K7_18
noncomputable def K7_20 : List Item := adv 3 [] K7_19
noncomputable def K7_21 : List Item := List.drop 1 K7_20
noncomputable def K7_22 : List Item := adv 4 [] K7_21
noncomputable def K7_23 : List Item := adv 7 [] (popK (popK K7_22))
noncomputable def K7_24 : List Item := adv 4 [] K7_23
noncomputable def K7_25 : List Item := adv 3 [true] K7_24
noncomputable def K7_26 : List Item := adv 5 [] (popK K7_25)
noncomputable def K7_27 : List Item := adv 5 [false] K7_24
noncomputable def K7_28 : List Item := adv 9 [false] K7_23
noncomputable def K7_29 : List Item := adv 7 [] K7_20
noncomputable def K7_30 : List Item := adv 8 [true] K7_29
noncomputable def K7_31 : List Item := adv 5 [] K7_30
noncomputable def K7_32 : List Item := adv 6 [true] K7_31
noncomputable def K7_33 : List Item := adv 5 [] (popK (popK K7_32))
noncomputable def K7_34 : List Item := adv 6 [false] K7_29
noncomputable def K7_35 : List Item := adv 5 [] K7_34
noncomputable def K7_36 : List Item := adv 4 [true] K7_35
noncomputable def K7_37 : List Item := adv 5 [] (popK K7_36)
noncomputable def K7_38 : List Item := adv 4 [true] K7_17
noncomputable def K7_39 : List Item := adv 1 [] (popK (popK K7_38))
noncomputable def K7_40 : List Item := adv 1 [] K7_39
noncomputable def K7_41 : List Item := adv 9 [false] K7_15
noncomputable def K7_42 : List Item := adv 5 [true] K7_41
noncomputable def K7_43 : List Item := adv 5 [false] K7_41
noncomputable def K7_44 : List Item := adv 4 [] (popK (popK K7_43))
noncomputable def K7_45 : List Item := adv 1 [] (popK K7_44)
noncomputable def K7_46 : List Item := adv 7 [] (popK K7_45)
noncomputable def K7_47 : List Item := adv 2 [] K7_46
noncomputable def K7_48 : List Item := adv 3 [] (popK K7_47)
noncomputable def K7_49 : List Item := adv 5 [true] K7_12
noncomputable def K7_50 : List Item := adv 2 [] K7_49
set_option maxRecDepth 20000 in
set_option maxHeartbeats 20000000 in
theorem lawblanks_any (a : Option Addr) (n c : Nat) (l : List Dr) (comment : ByteArray) (fa : Option Addr) (fn fc : Nat) (fl : List Int) (w : World) (hl : Recs drE 5 w a n l) (hcs : comment.size ≤ 9223372036854775807) (hfl : Ones (Value.int .u8) w fa fn fl) (hflq : ∀ y ∈ fl, 0 ≤ y ∧ y ≤ 255) (hfn : fn ≤ 9223372036854775807) (hW : TabW w) : Ret Tryd.prog 7 #[.slice a n c, .string comment, .slice fa fn fc] w (fun v w' => v = .bool true ∧ Sep w [] w') := by
 have S0 := Sep.refl w
 refine Ret.named fun R hR => ?_
 refine Ret.of_J (N := 115) [(0, .slice a n c), (1, .string comment), (2, .slice fa fn fc)] Tryd.func7 rfl rfl (Nat.le_of_ble_eq_true (by kernel_rfl)) (by kernel_rfl) ?_
 have hll := hl.len_eq
 have hfll := hfl.len_eq
 refine J.run 7 K7_0 [(0, .slice a n c), (1, .string comment), (2, .slice fa fn fc)] w (by kernel_rfl) ?_
 refine J.callF 17 8 #[] hb8 (by kernel_rfl) (awake_any  _ (tabW_sep hW S0)) ?_
 rintro _ w1 ⟨rfl, T1⟩
 have S1 : Sep w [] w1 := S0.trans T1
 clear T1
 refine J.run 7 K7_1 [(24, .bool (decide ((n : Int) > 60))), (0, .slice a n c), (1, .string comment), (2, .slice fa fn fc)] w1 (by kernel_rfl) ?_
 by_cases fk1 : (n : Int) > 60
 ·skip
  refine J.head (.bool true) (congrArg Value.bool (decide_eq_true fk1)) ?_
  refine J.run 13 K7_2 [] w1 (by kernel_rfl) ?_
  refine J.callF 34 8 #[] hb8 (by kernel_rfl) (awake_any  _ (tabW_sep hW S1)) ?_
  rintro _ w2 ⟨rfl, T2⟩
  have S2 : Sep w [] w2 := S1.trans T2
  clear T2 S1
  refine J.run 2 K7_3 [(6, .bool true)] w2 (by kernel_rfl) ?_
  refine J.ret Tryd.f7 [.bool true] Tryd.func7 ⟨by kernel_rfl, trivial⟩ ?_
  refine hR _ _ ?_
  exact ⟨rfl, S2.nil⟩
 ·skip
  refine J.head (.bool false) (congrArg Value.bool (decide_eq_false fk1)) ?_
  refine J.run 5 K7_4 [(29, .bool (decide ((comment.size : Int) > 40))), (0, .slice a n c), (1, .string comment), (2, .slice fa fn fc)] w1 (by kernel_rfl) ?_
  by_cases fk2 : (comment.size : Int) > 40
  ·skip
   refine J.head (.bool true) (congrArg Value.bool (decide_eq_true fk2)) ?_
   refine J.run 8 K7_5 [] w1 (by kernel_rfl) ?_
   refine J.callF 34 8 #[] hb8 (by kernel_rfl) (awake_any  _ (tabW_sep hW S1)) ?_
   rintro _ w3 ⟨rfl, T3⟩
   have S3 : Sep w [] w3 := S1.trans T3
   clear T3 S1
   refine J.run 2 K7_6 [(6, .bool true)] w3 (by kernel_rfl) ?_
   refine J.ret Tryd.f7 [.bool true] Tryd.func7 ⟨by kernel_rfl, trivial⟩ ?_
   refine hR _ _ ?_
   exact ⟨rfl, S3.nil⟩
  ·skip
   refine J.head (.bool false) (congrArg Value.bool (decide_eq_false fk2)) ?_
   refine J.run 1 K7_7 [(30, .string comment), (29, .bool false), (0, .slice a n c), (1, .string comment), (2, .slice fa fn fc)] w1 (by kernel_rfl) ?_
   refine J.strBytes S1 31 9 45 5 comment (by kernel_rfl) (by kernel_rfl) ?_
   intro b1 cq1 w4 S4
   refine J.callF 32 22 #[.slice (some ⟨b1, 0, none⟩) comment.size cq1, .int .u8 10] hb22 (by kernel_rfl) (contains8_any (some ⟨b1, 0, none⟩) comment.size cq1 (bytesI comment) 10 _ ((rows8_ones (S4.nth 0 rfl) _ rfl)) (by omega)) ?_
   rintro _ w5 ⟨rfl, T4⟩
   have S5 : Sep w [rows8 b1 comment] w5 := S4.trans T4
   clear T4 S4
   refine J.run 2 K7_8 [(33, .bool (List.any (bytesI comment) (fun c => 10 == c))), (0, .slice a n c), (1, .string comment), (2, .slice fa fn fc)] w5 (by kernel_rfl) ?_
   rcases Bool.eq_false_or_eq_true (List.any (bytesI comment) (fun c => 10 == c)) with fk3 | fk3
   ·skip
    refine J.head (.bool true) (congrArg Value.bool fk3) ?_
    refine J.run 3 K7_9 [] w5 (by kernel_rfl) ?_
    refine J.callF 34 8 #[] hb8 (by kernel_rfl) (awake_any  _ (tabW_sep hW S5)) ?_
    rintro _ w6 ⟨rfl, T5⟩
    have S6 : Sep w [rows8 b1 comment] w6 := S5.trans T5
    clear T5 S5
    refine J.run 2 K7_10 [(6, .bool true)] w6 (by kernel_rfl) ?_
    refine J.ret Tryd.f7 [.bool true] Tryd.func7 ⟨by kernel_rfl, trivial⟩ ?_
    refine hR _ _ ?_
    exact ⟨rfl, S6.nil⟩
   ·skip
    refine J.head (.bool false) (congrArg Value.bool fk3) ?_
    have hno := no_ten fk3
    have hno := no_ten fk3
    refine J.run 5 K7_11 [(36, .slice a n c), (0, .slice a n c), (1, .string comment), (2, .slice fa fn fc)] w5 (by kernel_rfl) ?_
    refine J.callF 37 17 #[.slice a n c] hb17 (by kernel_rfl) (text_any a n c l _ (hl.sep S5) (tabW_sep hW S5)) ?_
    rintro _ w7 ⟨rfl, T6⟩
    have S7 : Sep w [rows8 b1 comment] w7 := S5.trans T6
    clear T6 S5
    refine J.run 12 K7_12 [(41, .bool ((textE l) != 0)), (7, .string (textD l)), (0, .slice a n c), (1, .string comment), (2, .slice fa fn fc)] w7 (by kernel_rfl) ?_
    by_cases fk4 : (textE l) = 0
    ·skip
     refine J.head (.bool false) (congrArg Value.bool (bne_eq_false_iff_eq.2 fk4)) ?_
     have hv := valid_of_texte fk4
     have hvl := (valid_iff.1 hv).1
     have htz := text_room hv l.length (Nat.le_refl _)
     rw [← text_yes hv] at htz
     refine J.run 14 K7_13 [(44, .string (textD l)), (10, iv 0), (9, .slice none 0 0), (0, .slice a n c), (1, .string comment), (2, .slice fa fn fc)] w7 (by kernel_rfl) ?_
     refine J.strBytes S7 45 9 45 5 (textD l) (by kernel_rfl) (by kernel_rfl) ?_
     intro b2 cq2 w8 S8
     refine J.run 5 K7_14 [(47, iv 0), (46, iv ((textD l).size : Int)), (45, .slice (some ⟨b2, 0, none⟩) ((textD l).size) cq2), (10, iv 0), (9, .slice none 0 0), (0, .slice a n c), (1, .string comment), (2, .slice fa fn fc)] w8 (by kernel_rfl) ?_
     have S9 : Sep w [rowOf enc8 none 0 5 1 (ls ByteArray.empty), rows8 b2 (textD l), rows8 b1 comment] w8 := S8.nilRow 5 1
     have L7_1 : ∀ (mm_ : Nat) (rA : Option Addr) (rC : Nat) (t : ByteArray) (i : Int) (w9 : World), (0 ≤ i) → (i ≤ ((textD l).size : Int)) → (ls t = blankP (ls comment) fl (ls (textD l)) (i).toNat) → ((t).size ≤ 50 * (i).toNat) → Sep w [rowOf enc8 rA rC 5 1 (ls t), rows8 b2 (textD l), rows8 b1 comment] w9 → (((textD l).size : Int) - i).toNat = mm_ → J Tryd.prog 7 115 R K7_14 [(47, iv i), (46, iv ((textD l).size : Int)), (45, .slice (some ⟨b2, 0, none⟩) ((textD l).size) cq2), (10, iv i), (9, .slice rA ((ls t).length) rC), (0, .slice a n c), (1, .string comment), (2, .slice fa fn fc)] w9 := by
      intro mm1
      induction mm1 using Nat.strongRecOn with
      | _ mm1 ih1 =>
      intro rA rC t i w9 h0 h1 ht hz S10 hm1
      refine J.run 5 K7_15 [(48, .bool (decide (i < ((textD l).size : Int)))), (47, iv i), (46, iv ((textD l).size : Int)), (45, .slice (some ⟨b2, 0, none⟩) ((textD l).size) cq2), (10, iv i), (9, .slice rA ((ls t).length) rC), (0, .slice a n c), (1, .string comment), (2, .slice fa fn fc)] w9 (by kernel_rfl) ?_
      by_cases fk5 : i < ((textD l).size : Int)
      ·skip
       refine J.head (.bool true) (congrArg Value.bool (decide_eq_true fk5)) ?_
       refine J.run 6 K7_16 [(47, iv i), (46, iv ((textD l).size : Int)), (45, .slice (some ⟨b2, 0, none⟩) ((textD l).size) cq2), (10, iv i), (9, .slice rA ((ls t).length) rC), (0, .slice a n c), (1, .string comment), (2, .slice fa fn fc)] w9 (by kernel_rfl) ?_
       obtain ⟨p1, hp1, hc1⟩ := rows8_at (S10.nth 1 rfl) (i).toNat (by first | omega | (simp; omega))
       have := byteAt_bounds (textD l) (i).toNat
       refine J.ok (OK.index 49 45 1 (some ⟨b2, 0, none⟩) p1 ((textD l).size) (i).toNat i (p1.add (i).toNat) (by kernel_rfl) (by kernel_rfl) hp1 (by omega) (by first | omega | (simp; omega)) (by rw [Nat.mul_one])) ?_
       refine J.ok (OK.ldCell 50 5 (p1.add (i).toNat) (.int .u8 (byteAt (textD l) (i).toNat)) (by kernel_rfl) (by kernel_rfl) hc1) ?_
       refine J.run 14 K7_17 [(54, .bool (decide (i < (fn : Int)))), (13, iv 0), (12, .int .u8 (byteAt (textD l) (i).toNat)), (47, iv i), (46, iv ((textD l).size : Int)), (45, .slice (some ⟨b2, 0, none⟩) ((textD l).size) cq2), (10, iv i), (9, .slice rA ((ls t).length) rC), (0, .slice a n c), (1, .string comment), (2, .slice fa fn fc)] w9 (by kernel_rfl) ?_
       have X1 : ∀ (f : Int) (w10 : World), (f = fillAt fl i.toNat) → (0 ≤ f ∧ f ≤ 3) → Sep w [rowOf enc8 rA rC 5 1 (ls t), rows8 b2 (textD l), rows8 b1 comment] w10 → J Tryd.prog 7 115 R K7_18 [(12, .int .u8 (byteAt (textD l) (i).toNat)), (47, iv i), (46, iv ((textD l).size : Int)), (45, .slice (some ⟨b2, 0, none⟩) ((textD l).size) cq2), (10, iv i), (9, .slice rA ((ls t).length) rC), (0, .slice a n c), (1, .string comment), (2, .slice fa fn fc), (13, iv f)] w10 := by
        intro f w10 hf hf3 S11
        refine J.run 4 K7_19 [(62, iv (IntKind.wrap .i64 (i + 1))), (12, .int .u8 (byteAt (textD l) (i).toNat)), (47, iv i), (46, iv ((textD l).size : Int)), (45, .slice (some ⟨b2, 0, none⟩) ((textD l).size) cq2), (9, .slice rA ((ls t).length) rC), (0, .slice a n c), (1, .string comment), (2, .slice fa fn fc), (13, iv f)] w10 (by kernel_rfl) ?_
        refine J.head (iv (i + 1)) (congrArg (Value.int .i64) (IntWalk.i64_in _ (by omega))) ?_
        refine J.run 3 K7_20 [(10, iv (i + 1)), (12, .int .u8 (byteAt (textD l) (i).toNat)), (47, iv i), (46, iv ((textD l).size : Int)), (45, .slice (some ⟨b2, 0, none⟩) ((textD l).size) cq2), (9, .slice rA ((ls t).length) rC), (0, .slice a n c), (1, .string comment), (2, .slice fa fn fc), (13, iv f)] w10 (by kernel_rfl) ?_
        have X2 : ∀ (rA3 : Option Addr) (rC3 : Nat) (t3 : ByteArray) (w11 : World), (ls t3 = blankP (ls comment) fl (ls (textD l)) i.toNat ++ preB (ls comment) ((ls (textD l)).getD (i).toNat 0) (fillAt fl i.toNat)) → ((t3).size ≤ 50 * i.toNat + 43) → Sep w [rowOf enc8 rA3 rC3 5 1 (ls t3), rows8 b2 (textD l), rows8 b1 comment] w11 → J Tryd.prog 7 115 R K7_21 [(10, iv (i + 1)), (12, .int .u8 (byteAt (textD l) (i).toNat)), (47, iv i), (46, iv ((textD l).size : Int)), (45, .slice (some ⟨b2, 0, none⟩) ((textD l).size) cq2), (0, .slice a n c), (1, .string comment), (2, .slice fa fn fc), (13, iv f), (9, .slice rA3 ((ls t3).length) rC3)] w11 := by
         intro rA3 rC3 t3 w11 h3 hz3 S12
         refine J.run 4 K7_22 [(86, .int .u8 (byteAt (textD l) (i).toNat)), (85, .slice rA3 ((ls t3).length) rC3), (10, iv (i + 1)), (12, .int .u8 (byteAt (textD l) (i).toNat)), (47, iv i), (46, iv ((textD l).size : Int)), (45, .slice (some ⟨b2, 0, none⟩) ((textD l).size) cq2), (0, .slice a n c), (1, .string comment), (2, .slice fa fn fc), (13, iv f)] w11 (by kernel_rfl) ?_
         refine J.newSlice S12 87 1 [.int .u8 (byteAt (textD l) (i).toNat)] 5 (by kernel_rfl) ?_
         intro b3 w12 S13
         refine J.append8 S13 1 t3 ((ls (textD l)).getD (i).toNat 0) 88 45 (.int .u8 0) 1 ⟨b3, 0, none⟩ 1 rfl (by kernel_rfl) (by kernel_rfl) (by kernel_rfl) (by kernel_rfl) (box_cells (S13.nth 0 rfl)) (⟨by rw [ls_length]; omega, by rw [ls_length]; omega⟩) ?_
         intro ra1 rc1 w13 S14
         replace S14 : Sep w [box b3 [.int .u8 (byteAt (textD l) (i).toNat)] 5, rowOf enc8 ra1 rc1 5 1 (ls (t3 ++ (⟨#[((ls (textD l)).getD (i).toNat 0)]⟩ : ByteArray))), rows8 b2 (textD l), rows8 b1 comment] w13 := S14
         have S15 : Sep w [rowOf enc8 ra1 rc1 5 1 (ls (t3 ++ (⟨#[((ls (textD l)).getD (i).toNat 0)]⟩ : ByteArray))), rows8 b2 (textD l), rows8 b1 comment] w13 := S14.erase 0
         clear S14
         refine J.run 7 K7_23 [(91, .bool ((byteAt (textD l) (i).toNat) == 10)), (9, .slice ra1 ((ls (t3 ++ (⟨#[((ls (textD l)).getD (i).toNat 0)]⟩ : ByteArray))).length) rc1), (10, iv (i + 1)), (47, iv i), (46, iv ((textD l).size : Int)), (45, .slice (some ⟨b2, 0, none⟩) ((textD l).size) cq2), (0, .slice a n c), (1, .string comment), (2, .slice fa fn fc), (13, iv f)] w13 (by kernel_rfl) ?_
         by_cases fk6 : (byteAt (textD l) (i).toNat) = 10
         ·skip
          refine J.head (.bool true) (congrArg Value.bool (beq_iff_eq.2 fk6)) ?_
          refine J.run 4 K7_24 [(94, .bool (f == 3)), (9, .slice ra1 ((ls (t3 ++ (⟨#[((ls (textD l)).getD (i).toNat 0)]⟩ : ByteArray))).length) rc1), (10, iv (i + 1)), (47, iv i), (46, iv ((textD l).size : Int)), (45, .slice (some ⟨b2, 0, none⟩) ((textD l).size) cq2), (0, .slice a n c), (1, .string comment), (2, .slice fa fn fc)] w13 (by kernel_rfl) ?_
          by_cases fk7 : f = 3
          ·skip
           refine J.head (.bool true) (congrArg Value.bool (beq_iff_eq.2 fk7)) ?_
           refine J.run 3 K7_25 [(95, .slice ra1 ((ls (t3 ++ (⟨#[((ls (textD l)).getD (i).toNat 0)]⟩ : ByteArray))).length) rc1), (10, iv (i + 1)), (47, iv i), (46, iv ((textD l).size : Int)), (45, .slice (some ⟨b2, 0, none⟩) ((textD l).size) cq2), (0, .slice a n c), (1, .string comment), (2, .slice fa fn fc)] w13 (by kernel_rfl) ?_
           refine J.appStr S15 0 (t3 ++ (⟨#[((ls (textD l)).getD (i).toNat 0)]⟩ : ByteArray)) (⟨#[10, 32, 32, 10]⟩) 96 45 9 rfl (by kernel_rfl) (by kernel_rfl) (by kernel_rfl) (by rfl) (by first | omega | ((try simp only [size_app]); (have : (⟨#[32, 35]⟩ : ByteArray).size = 2 := rfl); (have : (⟨#[10, 32, 32, 10]⟩ : ByteArray).size = 4 := rfl); (have hc1_ : ∀ c : UInt8, (⟨#[c]⟩ : ByteArray).size = 1 := fun _ => rfl); (try simp only [hc1_]); omega)) ?_
           intro ra2 rc2 w14 S16
           replace S16 : Sep w [rowOf enc8 ra2 rc2 5 1 (ls ((t3 ++ (⟨#[((ls (textD l)).getD (i).toNat 0)]⟩ : ByteArray)) ++ (⟨#[10, 32, 32, 10]⟩))), rows8 b2 (textD l), rows8 b1 comment] w14 := S16
           refine J.run 5 K7_26 [(97, iv (IntKind.wrap .i64 (i + 1))), (9, .slice ra2 ((ls ((t3 ++ (⟨#[((ls (textD l)).getD (i).toNat 0)]⟩ : ByteArray)) ++ (⟨#[10, 32, 32, 10]⟩))).length) rc2), (10, iv (i + 1)), (46, iv ((textD l).size : Int)), (45, .slice (some ⟨b2, 0, none⟩) ((textD l).size) cq2), (0, .slice a n c), (1, .string comment), (2, .slice fa fn fc)] w14 (by kernel_rfl) ?_
           refine J.head (iv (i + 1)) (congrArg (Value.int .i64) (IntWalk.i64_in _ (by omega))) ?_
           refine J.run 3 K7_14 [(47, iv (i + 1)), (9, .slice ra2 ((ls ((t3 ++ (⟨#[((ls (textD l)).getD (i).toNat 0)]⟩ : ByteArray)) ++ (⟨#[10, 32, 32, 10]⟩))).length) rc2), (10, iv (i + 1)), (46, iv ((textD l).size : Int)), (45, .slice (some ⟨b2, 0, none⟩) ((textD l).size) cq2), (0, .slice a n c), (1, .string comment), (2, .slice fa fn fc)] w14 (by kernel_rfl) ?_
           refine J.run 0 K7_14 [(47, iv (i + 1)), (46, iv ((textD l).size : Int)), (45, .slice (some ⟨b2, 0, none⟩) ((textD l).size) cq2), (10, iv (i + 1)), (9, .slice ra2 ((ls ((t3 ++ (⟨#[((ls (textD l)).getD (i).toNat 0)]⟩ : ByteArray)) ++ (⟨#[10, 32, 32, 10]⟩))).length) rc2), (0, .slice a n c), (1, .string comment), (2, .slice fa fn fc)] w14 (by kernel_rfl) ?_
           exact ih1 _ (show (((textD l).size : Int) - (i + 1)).toNat < mm1 from by omega) ra2 rc2 ((t3 ++ (⟨#[((ls (textD l)).getD (i).toNat 0)]⟩ : ByteArray)) ++ (⟨#[10, 32, 32, 10]⟩)) (i + 1) w14 (by omega) (by omega) (by rw [blankP_succ h0, ls_append, ls_append, h3, ← hf, postB, if_pos ⟨(byte_is (k := 10) (by omega)).2 (by omega), by omega⟩]; (try simp only [List.append_assoc]); first | done | rfl) (by first | omega | ((try simp only [size_app]); (have : (⟨#[10, 32, 32, 10]⟩ : ByteArray).size = 4 := rfl); (have : ∀ c : UInt8, (⟨#[c]⟩ : ByteArray).size = 1 := fun _ => rfl); (try simp only [this]); omega)) S16 rfl
          ·skip
           refine J.head (.bool false) (congrArg Value.bool (beq_eq_false_iff_ne.2 fk7)) ?_
           refine J.run 5 K7_27 [(97, iv (IntKind.wrap .i64 (i + 1))), (9, .slice ra1 ((ls (t3 ++ (⟨#[((ls (textD l)).getD (i).toNat 0)]⟩ : ByteArray))).length) rc1), (10, iv (i + 1)), (46, iv ((textD l).size : Int)), (45, .slice (some ⟨b2, 0, none⟩) ((textD l).size) cq2), (0, .slice a n c), (1, .string comment), (2, .slice fa fn fc)] w13 (by kernel_rfl) ?_
           refine J.head (iv (i + 1)) (congrArg (Value.int .i64) (IntWalk.i64_in _ (by omega))) ?_
           refine J.run 3 K7_14 [(47, iv (i + 1)), (9, .slice ra1 ((ls (t3 ++ (⟨#[((ls (textD l)).getD (i).toNat 0)]⟩ : ByteArray))).length) rc1), (10, iv (i + 1)), (46, iv ((textD l).size : Int)), (45, .slice (some ⟨b2, 0, none⟩) ((textD l).size) cq2), (0, .slice a n c), (1, .string comment), (2, .slice fa fn fc)] w13 (by kernel_rfl) ?_
           refine J.run 0 K7_14 [(47, iv (i + 1)), (46, iv ((textD l).size : Int)), (45, .slice (some ⟨b2, 0, none⟩) ((textD l).size) cq2), (10, iv (i + 1)), (9, .slice ra1 ((ls (t3 ++ (⟨#[((ls (textD l)).getD (i).toNat 0)]⟩ : ByteArray))).length) rc1), (0, .slice a n c), (1, .string comment), (2, .slice fa fn fc)] w13 (by kernel_rfl) ?_
           exact ih1 _ (show (((textD l).size : Int) - (i + 1)).toNat < mm1 from by omega) ra1 rc1 (t3 ++ (⟨#[((ls (textD l)).getD (i).toNat 0)]⟩ : ByteArray)) (i + 1) w13 (by omega) (by omega) (by rw [blankP_succ h0, ls_append, h3, ← hf, postB, if_neg (fun e_ => by have := (byte_is (s := (textD l)) (i := i.toNat) (k := 10) (by omega)).1 e_.1; omega)]; (try simp only [List.append_assoc]); first | done | rfl) (by first | omega | ((try simp only [size_app]); (have : (⟨#[10, 32, 32, 10]⟩ : ByteArray).size = 4 := rfl); (have : ∀ c : UInt8, (⟨#[c]⟩ : ByteArray).size = 1 := fun _ => rfl); (try simp only [this]); omega)) S15 rfl
         ·skip
          refine J.head (.bool false) (congrArg Value.bool (beq_eq_false_iff_ne.2 fk6)) ?_
          refine J.run 9 K7_28 [(97, iv (IntKind.wrap .i64 (i + 1))), (9, .slice ra1 ((ls (t3 ++ (⟨#[((ls (textD l)).getD (i).toNat 0)]⟩ : ByteArray))).length) rc1), (10, iv (i + 1)), (46, iv ((textD l).size : Int)), (45, .slice (some ⟨b2, 0, none⟩) ((textD l).size) cq2), (0, .slice a n c), (1, .string comment), (2, .slice fa fn fc)] w13 (by kernel_rfl) ?_
          refine J.head (iv (i + 1)) (congrArg (Value.int .i64) (IntWalk.i64_in _ (by omega))) ?_
          refine J.run 3 K7_14 [(47, iv (i + 1)), (9, .slice ra1 ((ls (t3 ++ (⟨#[((ls (textD l)).getD (i).toNat 0)]⟩ : ByteArray))).length) rc1), (10, iv (i + 1)), (46, iv ((textD l).size : Int)), (45, .slice (some ⟨b2, 0, none⟩) ((textD l).size) cq2), (0, .slice a n c), (1, .string comment), (2, .slice fa fn fc)] w13 (by kernel_rfl) ?_
          refine J.run 0 K7_14 [(47, iv (i + 1)), (46, iv ((textD l).size : Int)), (45, .slice (some ⟨b2, 0, none⟩) ((textD l).size) cq2), (10, iv (i + 1)), (9, .slice ra1 ((ls (t3 ++ (⟨#[((ls (textD l)).getD (i).toNat 0)]⟩ : ByteArray))).length) rc1), (0, .slice a n c), (1, .string comment), (2, .slice fa fn fc)] w13 (by kernel_rfl) ?_
          exact ih1 _ (show (((textD l).size : Int) - (i + 1)).toNat < mm1 from by omega) ra1 rc1 (t3 ++ (⟨#[((ls (textD l)).getD (i).toNat 0)]⟩ : ByteArray)) (i + 1) w13 (by omega) (by omega) (by rw [blankP_succ h0, ls_append, h3, ← hf, postB, if_neg (fun e_ => by have := (byte_is (s := (textD l)) (i := i.toNat) (k := 10) (by omega)).1 e_.1; omega)]; (try simp only [List.append_assoc]); first | done | rfl) (by first | omega | ((try simp only [size_app]); (have : (⟨#[10, 32, 32, 10]⟩ : ByteArray).size = 4 := rfl); (have : ∀ c : UInt8, (⟨#[c]⟩ : ByteArray).size = 1 := fun _ => rfl); (try simp only [this]); omega)) S15 rfl
        refine J.run 7 K7_29 [(63, .bool ((byteAt (textD l) (i).toNat) == 32)), (10, iv (i + 1)), (12, .int .u8 (byteAt (textD l) (i).toNat)), (47, iv i), (46, iv ((textD l).size : Int)), (45, .slice (some ⟨b2, 0, none⟩) ((textD l).size) cq2), (9, .slice rA ((ls t).length) rC), (0, .slice a n c), (1, .string comment), (2, .slice fa fn fc), (13, iv f)] w10 (by kernel_rfl) ?_
        by_cases fk8 : (byteAt (textD l) (i).toNat) = 32
        ·skip
         refine J.head (.bool true) (congrArg Value.bool (beq_iff_eq.2 fk8)) ?_
         refine J.run 8 K7_30 [(67, iv 0), (66, iv f), (10, iv (i + 1)), (12, .int .u8 (byteAt (textD l) (i).toNat)), (47, iv i), (46, iv ((textD l).size : Int)), (45, .slice (some ⟨b2, 0, none⟩) ((textD l).size) cq2), (9, .slice rA ((ls t).length) rC), (0, .slice a n c), (1, .string comment), (2, .slice fa fn fc), (13, iv f)] w10 (by kernel_rfl) ?_
         have L7_2 : ∀ (mm_ : Nat) (rA2 : Option Addr) (rC2 : Nat) (t2 : ByteArray) (j : Int) (w15 : World), (0 ≤ j ∧ j ≤ f) → (ls t2 = blankP (ls comment) fl (ls (textD l)) i.toNat ++ List.replicate (j).toNat 32) → ((t2).size ≤ 50 * i.toNat + (j).toNat) → Sep w [rowOf enc8 rA2 rC2 5 1 (ls t2), rows8 b2 (textD l), rows8 b1 comment] w15 → (f - j).toNat = mm_ → J Tryd.prog 7 115 R K7_30 [(67, iv j), (66, iv f), (10, iv (i + 1)), (12, .int .u8 (byteAt (textD l) (i).toNat)), (47, iv i), (46, iv ((textD l).size : Int)), (45, .slice (some ⟨b2, 0, none⟩) ((textD l).size) cq2), (9, .slice rA2 ((ls t2).length) rC2), (0, .slice a n c), (1, .string comment), (2, .slice fa fn fc), (13, iv f)] w15 := by
          intro mm2
          induction mm2 using Nat.strongRecOn with
          | _ mm2 ih2 =>
          intro rA2 rC2 t2 j w15 j0 hb2 hz2 S17 hm2
          refine J.run 5 K7_31 [(68, .bool (decide (j < f))), (67, iv j), (66, iv f), (10, iv (i + 1)), (12, .int .u8 (byteAt (textD l) (i).toNat)), (47, iv i), (46, iv ((textD l).size : Int)), (45, .slice (some ⟨b2, 0, none⟩) ((textD l).size) cq2), (9, .slice rA2 ((ls t2).length) rC2), (0, .slice a n c), (1, .string comment), (2, .slice fa fn fc), (13, iv f)] w15 (by kernel_rfl) ?_
          by_cases fk9 : j < f
          ·skip
           refine J.head (.bool true) (congrArg Value.bool (decide_eq_true fk9)) ?_
           refine J.run 6 K7_32 [(69, .slice rA2 ((ls t2).length) rC2), (67, iv j), (66, iv f), (10, iv (i + 1)), (12, .int .u8 (byteAt (textD l) (i).toNat)), (47, iv i), (46, iv ((textD l).size : Int)), (45, .slice (some ⟨b2, 0, none⟩) ((textD l).size) cq2), (0, .slice a n c), (1, .string comment), (2, .slice fa fn fc), (13, iv f)] w15 (by kernel_rfl) ?_
           refine J.newSlice S17 70 1 [.int .u8 32] 5 (by kernel_rfl) ?_
           intro b4 w16 S18
           refine J.append8 S18 1 t2 (32 : UInt8) 71 45 (.int .u8 0) 1 ⟨b4, 0, none⟩ 1 rfl (by kernel_rfl) (by kernel_rfl) (by kernel_rfl) (by kernel_rfl) (box_cells (S18.nth 0 rfl)) (⟨by rw [ls_length]; omega, by rw [ls_length]; omega⟩) ?_
           intro ra3 rc3 w17 S19
           replace S19 : Sep w [box b4 [.int .u8 32] 5, rowOf enc8 ra3 rc3 5 1 (ls (t2 ++ (⟨#[(32 : UInt8)]⟩ : ByteArray))), rows8 b2 (textD l), rows8 b1 comment] w17 := S19
           have S20 : Sep w [rowOf enc8 ra3 rc3 5 1 (ls (t2 ++ (⟨#[(32 : UInt8)]⟩ : ByteArray))), rows8 b2 (textD l), rows8 b1 comment] w17 := S19.erase 0
           clear S19
           refine J.run 5 K7_33 [(72, iv (IntKind.wrap .i64 (j + 1))), (9, .slice ra3 ((ls (t2 ++ (⟨#[(32 : UInt8)]⟩ : ByteArray))).length) rc3), (66, iv f), (10, iv (i + 1)), (12, .int .u8 (byteAt (textD l) (i).toNat)), (47, iv i), (46, iv ((textD l).size : Int)), (45, .slice (some ⟨b2, 0, none⟩) ((textD l).size) cq2), (0, .slice a n c), (1, .string comment), (2, .slice fa fn fc), (13, iv f)] w17 (by kernel_rfl) ?_
           refine J.head (iv (j + 1)) (congrArg (Value.int .i64) (IntWalk.i64_in _ (by omega))) ?_
           refine J.run 3 K7_30 [(67, iv (j + 1)), (9, .slice ra3 ((ls (t2 ++ (⟨#[(32 : UInt8)]⟩ : ByteArray))).length) rc3), (66, iv f), (10, iv (i + 1)), (12, .int .u8 (byteAt (textD l) (i).toNat)), (47, iv i), (46, iv ((textD l).size : Int)), (45, .slice (some ⟨b2, 0, none⟩) ((textD l).size) cq2), (0, .slice a n c), (1, .string comment), (2, .slice fa fn fc), (13, iv f)] w17 (by kernel_rfl) ?_
           refine J.run 0 K7_30 [(67, iv (j + 1)), (66, iv f), (10, iv (i + 1)), (12, .int .u8 (byteAt (textD l) (i).toNat)), (47, iv i), (46, iv ((textD l).size : Int)), (45, .slice (some ⟨b2, 0, none⟩) ((textD l).size) cq2), (9, .slice ra3 ((ls (t2 ++ (⟨#[(32 : UInt8)]⟩ : ByteArray))).length) rc3), (0, .slice a n c), (1, .string comment), (2, .slice fa fn fc), (13, iv f)] w17 (by kernel_rfl) ?_
           exact ih2 _ (show (f - (j + 1)).toNat < mm2 from by omega) ra3 rc3 (t2 ++ (⟨#[(32 : UInt8)]⟩ : ByteArray)) (j + 1) w17 (by omega) (by rw [ls_append, hb2, show (j + 1).toNat = j.toNat + 1 by omega, List.replicate_succ', List.append_assoc] <;> rfl) (by first | omega | ((try simp only [size_app]); (have : (⟨#[10, 32, 32, 10]⟩ : ByteArray).size = 4 := rfl); (have : ∀ c : UInt8, (⟨#[c]⟩ : ByteArray).size = 1 := fun _ => rfl); (try simp only [this]); omega)) S20 rfl
          ·skip
           refine J.head (.bool false) (congrArg Value.bool (decide_eq_false fk9)) ?_
           refine J.run 3 K7_21 [(10, iv (i + 1)), (12, .int .u8 (byteAt (textD l) (i).toNat)), (47, iv i), (46, iv ((textD l).size : Int)), (45, .slice (some ⟨b2, 0, none⟩) ((textD l).size) cq2), (0, .slice a n c), (1, .string comment), (2, .slice fa fn fc), (13, iv f), (9, .slice rA2 ((ls t2).length) rC2)] w15 (by kernel_rfl) ?_
           exact X2 rA2 rC2 t2 w15 ((by rw [hb2, show j = f by omega, hf, preB, if_pos (show ((ls (textD l)).getD (i).toNat 0) = 32 from (byte_is (k := 32) (by omega)).2 (by omega))])) (by first | omega | ((try simp only [size_app]); (have : (⟨#[32, 35]⟩ : ByteArray).size = 2 := rfl); omega)) S17
         exact L7_2 _ rA rC t 0 w10 (by omega) (by rw [ht]; exact (List.append_nil _).symm) (by omega) S11 rfl
        ·skip
         refine J.head (.bool false) (congrArg Value.bool (beq_eq_false_iff_ne.2 fk8)) ?_
         refine J.run 6 K7_34 [(76, .bool ((byteAt (textD l) (i).toNat) == 10)), (10, iv (i + 1)), (12, .int .u8 (byteAt (textD l) (i).toNat)), (47, iv i), (46, iv ((textD l).size : Int)), (45, .slice (some ⟨b2, 0, none⟩) ((textD l).size) cq2), (9, .slice rA ((ls t).length) rC), (0, .slice a n c), (1, .string comment), (2, .slice fa fn fc), (13, iv f)] w10 (by kernel_rfl) ?_
         by_cases fk10 : (byteAt (textD l) (i).toNat) = 10
         ·skip
          refine J.head (.bool true) (congrArg Value.bool (beq_iff_eq.2 fk10)) ?_
          refine J.run 5 K7_35 [(73, .bool (decide (f > 0))), (10, iv (i + 1)), (12, .int .u8 (byteAt (textD l) (i).toNat)), (47, iv i), (46, iv ((textD l).size : Int)), (45, .slice (some ⟨b2, 0, none⟩) ((textD l).size) cq2), (9, .slice rA ((ls t).length) rC), (0, .slice a n c), (1, .string comment), (2, .slice fa fn fc), (13, iv f)] w10 (by kernel_rfl) ?_
          by_cases fk11 : f > 0
          ·skip
           refine J.head (.bool true) (congrArg Value.bool (decide_eq_true fk11)) ?_
           refine J.run 4 K7_36 [(80, .slice rA ((ls t).length) rC), (10, iv (i + 1)), (12, .int .u8 (byteAt (textD l) (i).toNat)), (47, iv i), (46, iv ((textD l).size : Int)), (45, .slice (some ⟨b2, 0, none⟩) ((textD l).size) cq2), (0, .slice a n c), (1, .string comment), (2, .slice fa fn fc), (13, iv f)] w10 (by kernel_rfl) ?_
           refine J.appStr S11 0 t (⟨#[32, 35]⟩) 81 45 9 rfl (by kernel_rfl) (by kernel_rfl) (by kernel_rfl) (by rfl) (by first | omega | ((try simp only [size_app]); (have : (⟨#[32, 35]⟩ : ByteArray).size = 2 := rfl); (have : (⟨#[10, 32, 32, 10]⟩ : ByteArray).size = 4 := rfl); (have hc1_ : ∀ c : UInt8, (⟨#[c]⟩ : ByteArray).size = 1 := fun _ => rfl); (try simp only [hc1_]); omega)) ?_
           intro ra4 rc4 w18 S21
           replace S21 : Sep w [rowOf enc8 ra4 rc4 5 1 (ls (t ++ (⟨#[32, 35]⟩))), rows8 b2 (textD l), rows8 b1 comment] w18 := S21
           refine J.run 5 K7_37 [(83, .string comment), (82, .slice ra4 ((ls (t ++ (⟨#[32, 35]⟩))).length) rc4), (10, iv (i + 1)), (12, .int .u8 (byteAt (textD l) (i).toNat)), (47, iv i), (46, iv ((textD l).size : Int)), (45, .slice (some ⟨b2, 0, none⟩) ((textD l).size) cq2), (0, .slice a n c), (1, .string comment), (2, .slice fa fn fc), (13, iv f)] w18 (by kernel_rfl) ?_
           refine J.appStr S21 0 (t ++ (⟨#[32, 35]⟩)) comment 84 45 9 rfl (by kernel_rfl) (by kernel_rfl) (by kernel_rfl) (by rfl) (by first | omega | ((try simp only [size_app]); (have : (⟨#[32, 35]⟩ : ByteArray).size = 2 := rfl); (have : (⟨#[10, 32, 32, 10]⟩ : ByteArray).size = 4 := rfl); (have hc1_ : ∀ c : UInt8, (⟨#[c]⟩ : ByteArray).size = 1 := fun _ => rfl); (try simp only [hc1_]); omega)) ?_
           intro ra5 rc5 w19 S22
           replace S22 : Sep w [rowOf enc8 ra5 rc5 5 1 (ls ((t ++ (⟨#[32, 35]⟩)) ++ comment)), rows8 b2 (textD l), rows8 b1 comment] w19 := S22
           refine J.run 3 K7_21 [(10, iv (i + 1)), (12, .int .u8 (byteAt (textD l) (i).toNat)), (47, iv i), (46, iv ((textD l).size : Int)), (45, .slice (some ⟨b2, 0, none⟩) ((textD l).size) cq2), (0, .slice a n c), (1, .string comment), (2, .slice fa fn fc), (13, iv f), (9, .slice ra5 ((ls ((t ++ (⟨#[32, 35]⟩)) ++ comment)).length) rc5)] w19 (by kernel_rfl) ?_
           exact X2 ra5 rc5 ((t ++ (⟨#[32, 35]⟩)) ++ comment) w19 ((by rw [ls_append, ls_append, ht, ← hf, preB, if_neg (fun e_ => by have := (byte_is (s := (textD l)) (i := i.toNat) (k := 32) (by omega)).1 e_; omega), if_pos ⟨(byte_is (k := 10) (by omega)).2 (by omega), by omega⟩]; (try simp only [List.append_assoc]); first | done | rfl)) (by first | omega | ((try simp only [size_app]); (have : (⟨#[32, 35]⟩ : ByteArray).size = 2 := rfl); omega)) S22
          ·skip
           refine J.head (.bool false) (congrArg Value.bool (decide_eq_false fk11)) ?_
           refine J.run 3 K7_21 [(10, iv (i + 1)), (12, .int .u8 (byteAt (textD l) (i).toNat)), (47, iv i), (46, iv ((textD l).size : Int)), (45, .slice (some ⟨b2, 0, none⟩) ((textD l).size) cq2), (0, .slice a n c), (1, .string comment), (2, .slice fa fn fc), (13, iv f), (9, .slice rA ((ls t).length) rC)] w10 (by kernel_rfl) ?_
           exact X2 rA rC t w10 ((by rw [ht, ← hf, preB, if_neg (fun e_ => by have := (byte_is (s := (textD l)) (i := i.toNat) (k := 32) (by omega)).1 e_; omega), if_neg (fun e_ => by have := (byte_is (s := (textD l)) (i := i.toNat) (k := 10) (by omega)).1 e_.1; omega), List.append_nil])) (by first | omega | ((try simp only [size_app]); (have : (⟨#[32, 35]⟩ : ByteArray).size = 2 := rfl); omega)) S11
         ·skip
          refine J.head (.bool false) (congrArg Value.bool (beq_eq_false_iff_ne.2 fk10)) ?_
          refine J.run 8 K7_21 [(10, iv (i + 1)), (12, .int .u8 (byteAt (textD l) (i).toNat)), (47, iv i), (46, iv ((textD l).size : Int)), (45, .slice (some ⟨b2, 0, none⟩) ((textD l).size) cq2), (0, .slice a n c), (1, .string comment), (2, .slice fa fn fc), (13, iv f), (9, .slice rA ((ls t).length) rC)] w10 (by kernel_rfl) ?_
          exact X2 rA rC t w10 ((by rw [ht, ← hf, preB, if_neg (fun e_ => by have := (byte_is (s := (textD l)) (i := i.toNat) (k := 32) (by omega)).1 e_; omega), if_neg (fun e_ => by have := (byte_is (s := (textD l)) (i := i.toNat) (k := 10) (by omega)).1 e_.1; omega), List.append_nil])) (by first | omega | ((try simp only [size_app]); (have : (⟨#[32, 35]⟩ : ByteArray).size = 2 := rfl); omega)) S11
       by_cases fk12 : i < (fn : Int)
       ·skip
        refine J.head (.bool true) (congrArg Value.bool (decide_eq_true fk12)) ?_
        refine J.run 4 K7_38 [(56, iv i), (55, .slice fa fn fc), (12, .int .u8 (byteAt (textD l) (i).toNat)), (47, iv i), (46, iv ((textD l).size : Int)), (45, .slice (some ⟨b2, 0, none⟩) ((textD l).size) cq2), (10, iv i), (9, .slice rA ((ls t).length) rC), (0, .slice a n c), (1, .string comment), (2, .slice fa fn fc)] w9 (by kernel_rfl) ?_
        obtain ⟨p2, hp2, hc2⟩ := hfl.at 0 (i).toNat (by omega)
        have hel1 := getD_Q hflq 0 (n := (i).toNat) (by have := hfl.len_eq; omega)
        refine J.ok (OK.index 57 45 1 fa p2 fn (i).toNat i (p2.add (i).toNat) (by kernel_rfl) (by kernel_rfl) hp2 (by omega) (by omega) (by rw [Nat.mul_one])) ?_
        refine J.ok (OK.ldCell 58 5 (p2.add (i).toNat) (.int .u8 (fl.getD (i).toNat 0)) (by kernel_rfl) (by kernel_rfl) (S10.cell hc2)) ?_
        refine J.run 1 K7_39 [(59, iv (IntKind.wrap .i64 (fl.getD (i).toNat 0))), (12, .int .u8 (byteAt (textD l) (i).toNat)), (47, iv i), (46, iv ((textD l).size : Int)), (45, .slice (some ⟨b2, 0, none⟩) ((textD l).size) cq2), (10, iv i), (9, .slice rA ((ls t).length) rC), (0, .slice a n c), (1, .string comment), (2, .slice fa fn fc)] w9 (by kernel_rfl) ?_
        refine J.head (iv (fl.getD (i).toNat 0)) (congrArg (Value.int .i64) (IntWalk.i64_in _ (by omega))) ?_
        refine J.run 1 K7_40 [(60, iv (Int.tmod (fl.getD (i).toNat 0) 4)), (12, .int .u8 (byteAt (textD l) (i).toNat)), (47, iv i), (46, iv ((textD l).size : Int)), (45, .slice (some ⟨b2, 0, none⟩) ((textD l).size) cq2), (10, iv i), (9, .slice rA ((ls t).length) rC), (0, .slice a n c), (1, .string comment), (2, .slice fa fn fc)] w9 (by kernel_rfl) ?_
        refine J.head (iv ((fl.getD (i).toNat 0) % 4)) (congrArg (Value.int .i64) (IntWalk.rem_in _ _ (by omega))) ?_
        refine J.run 2 K7_18 [(12, .int .u8 (byteAt (textD l) (i).toNat)), (47, iv i), (46, iv ((textD l).size : Int)), (45, .slice (some ⟨b2, 0, none⟩) ((textD l).size) cq2), (10, iv i), (9, .slice rA ((ls t).length) rC), (0, .slice a n c), (1, .string comment), (2, .slice fa fn fc), (13, iv ((fl.getD (i).toNat 0) % 4))] w9 (by kernel_rfl) ?_
        exact X1 ((fl.getD (i).toNat 0) % 4) w9 (by unfold fillAt; first | (rw [if_pos (by omega)]; done) | (rw [if_pos (by omega)]; rfl) | (rw [if_neg (by omega)])) (by omega) S10
       ·skip
        refine J.head (.bool false) (congrArg Value.bool (decide_eq_false fk12)) ?_
        refine J.run 2 K7_18 [(12, .int .u8 (byteAt (textD l) (i).toNat)), (47, iv i), (46, iv ((textD l).size : Int)), (45, .slice (some ⟨b2, 0, none⟩) ((textD l).size) cq2), (10, iv i), (9, .slice rA ((ls t).length) rC), (0, .slice a n c), (1, .string comment), (2, .slice fa fn fc), (13, iv 0)] w9 (by kernel_rfl) ?_
        exact X1 0 w9 (by unfold fillAt; first | (rw [if_pos (by omega)]; done) | (rw [if_pos (by omega)]; rfl) | (rw [if_neg (by omega)])) (by omega) S10
      ·skip
       refine J.head (.bool false) (congrArg Value.bool (decide_eq_false fk5)) ?_
       have hti : ls t = blankP (ls comment) fl (ls (textD l)) (ls (textD l)).length := by rw [ht, ls_length, show i.toNat = (textD l).size by omega]
       refine J.run 9 K7_41 [(100, .bool (decide (((ls t).length : Int) > 16384))), (9, .slice rA ((ls t).length) rC), (0, .slice a n c)] w9 (by kernel_rfl) ?_
       by_cases fk13 : ((ls t).length : Int) > 16384
       ·skip
        refine J.head (.bool true) (congrArg Value.bool (decide_eq_true fk13)) ?_
        refine J.run 5 K7_42 [(6, .bool true)] w9 (by kernel_rfl) ?_
        refine J.ret Tryd.f7 [.bool true] Tryd.func7 ⟨by kernel_rfl, trivial⟩ ?_
        refine hR _ _ ?_
        exact ⟨rfl, S10.nil⟩
       ·skip
        refine J.head (.bool false) (congrArg Value.bool (decide_eq_false fk13)) ?_
        have hpt := par_blank hv hno hti (by have := ls_length t; omega)
        refine J.run 5 K7_43 [(102, .slice rA ((ls t).length) rC), (0, .slice a n c)] w9 (by kernel_rfl) ?_
        refine J.ok (OK.bytes 103 45 9 rA ((ls t).length) rC (bytesI t) (by kernel_rfl) (by kernel_rfl) (enc8_ones (S10.nth 0 rfl) _ rfl) (fun p hp => by rw [rowOf_plain (S10.nth 0 rfl) p hp])) ?_
        refine J.head (.string t) (congrArg Value.string (bytesB_bytesI _)) ?_
        refine J.callF 104 18 #[.string t] hb18 (by kernel_rfl) (parse_any t _ (by omega) (tabW_sep hW S10)) ?_
        rintro _ w20 ⟨ra6, rc6, rfl, T7⟩
        have S23 : Sep w [rowOf drE ra6 rc6 27 5 ((parF t).l), rowOf enc8 rA rC 5 1 (ls t), rows8 b2 (textD l), rows8 b1 comment] w20 := S10.trans T7
        clear T7 S10
        refine J.run 4 K7_44 [(107, iv ((parF t).e)), (106, .agg #[iv ((parF t).pl), iv ((parF t).pc)]), (105, .slice ra6 (((parF t).l).length) rc6), (0, .slice a n c)] w20 (by kernel_rfl) ?_
        refine J.new S23 15 [iv 0, iv 0] 39 (by kernel_rfl) ?_
        intro b5 w21 S24
        refine J.run 1 K7_45 [(14, .slice ra6 (((parF t).l).length) rc6), (15, .pointer (some ⟨b5, 0, none⟩)), (107, iv ((parF t).e)), (106, .agg #[iv ((parF t).pl), iv ((parF t).pc)]), (0, .slice a n c)] w21 (by kernel_rfl) ?_
        refine J.stBox S24 0 39 0 (.agg #[iv ((parF t).pl), iv ((parF t).pc)]) [iv ((parF t).pl), iv ((parF t).pc)] [box b5 [iv ((parF t).pl), iv ((parF t).pc)] 39, rowOf drE ra6 rc6 27 5 ((parF t).l), rowOf enc8 rA rC 5 1 (ls t), rows8 b2 (textD l), rows8 b1 comment] (by kernel_rfl) rfl (by kernel_rfl) (by kernel_rfl) rfl ?_
        intro w22 S25
        refine J.run 7 K7_46 [(110, .bool (((parF t).e) == 0)), (14, .slice ra6 (((parF t).l).length) rc6), (0, .slice a n c)] w22 (by kernel_rfl) ?_
        have fk15 : ((parF t).e) = 0 := (congrArg ParD.e hpt)
        refine J.head (.bool true) (congrArg Value.bool (beq_iff_eq.2 fk15)) ?_
        refine J.run 2 K7_47 [(112, .slice a n c), (111, .slice ra6 (((parF t).l).length) rc6), (110, .bool true)] w22 (by kernel_rfl) ?_
        have := rowOf_len (S25.nth 1 rfl)
        refine J.callF 113 20 #[.slice ra6 (((parF t).l).length) rc6, .slice a n c] hb20 (by kernel_rfl) (equalDr_any ra6 (((parF t).l).length) rc6 ((parF t).l) a n c l _ ((rowOf_recs (S25.nth 1 rfl) _ rfl (fun _ => rfl) (by decide))) (hl.sep S25) (by first | omega | (simp; omega))) ?_
        rintro _ w23 ⟨rfl, T8⟩
        have S26 : Sep w [box b5 [iv ((parF t).pl), iv ((parF t).pc)] 39, rowOf drE ra6 rc6 27 5 ((parF t).l), rowOf enc8 rA rC 5 1 (ls t), rows8 b2 (textD l), rows8 b1 comment] w23 := S25.trans T8
        clear T8 S25
        refine J.run 3 K7_48 [(6, .bool (sameDr ((parF t).l) l))] w23 (by kernel_rfl) ?_
        refine J.ret Tryd.f7 [.bool (sameDr ((parF t).l) l)] Tryd.func7 ⟨by kernel_rfl, trivial⟩ ?_
        refine hR _ _ ?_
        have fk16 : (sameDr ((parF t).l) l) = true := (by rw [hpt]; exact sameDr_refl _)
        exact ⟨congrArg Value.bool fk16, S26.nil⟩
     exact L7_1 _ none 0 ByteArray.empty 0 w8 (by omega) (by omega) (rfl) (by decide) S9 rfl
    ·skip
     refine J.head (.bool true) (congrArg Value.bool (bne_iff_ne.2 fk4)) ?_
     have hnv : validD l = false := by cases hv : validD l with | false => rfl | true => exact absurd (texte_yes hv) fk4
     refine J.run 5 K7_49 [(43, .bool ((textD l).toList == (⟨#[]⟩ : ByteArray).toList))] w7 (by kernel_rfl) ?_
     refine J.head (.bool (((textD l).size : Int) == 0)) (congrArg Value.bool (beq_nil_eql _)) ?_
     refine J.run 2 K7_50 [(6, .bool (((textD l).size : Int) == 0))] w7 (by kernel_rfl) ?_
     refine J.ret Tryd.f7 [.bool (((textD l).size : Int) == 0)] Tryd.func7 ⟨by kernel_rfl, trivial⟩ ?_
     refine hR _ _ ?_
     have fk17 : ((textD l).size : Int) = 0 := (by rw [text_no hnv]; rfl)
     exact ⟨congrArg Value.bool (beq_iff_eq.2 fk17), S7.nil⟩

end Go.Proofs.YthhdaackhfffiaaDoor

