/- Walks of functions of this seat, printed by a program over the engine. Conditions: as each theorem says. -/
import Derived.Test.YtdilhoibcbihlaaDoorZV14
import Derived.Test.YtdilhoibcbihlaaDoorZEng10
import Derived.Test.YtdilhoibcbihlaaDoorZShelf
namespace Go.Proofs.YtdilhoibcbihlaaDoor
open Go.Eng Go.RowKit
set_option linter.unusedSimpArgs false
set_option linter.unusedVariables false
abbrev TabW (w : World) : Prop := Lib.TabIs Tryd.prog w "internal/strconv.uint64pow10" .u64 Lib.pow10Tab
theorem tabW_sep {w w' : World} {L : List Go.Eng.Claim} (h : TabW w) (S : Sep w L w') : TabW w' := S.tab (g := 3) (by kernel_rfl) h
def nodeT (c : Crv) (j : Nat) : ByteArray := itoaB (c.gX_l.getD j 0) ++ (⟨#[58]⟩ : ByteArray) ++ itoaB (c.gY_l.getD j 0)
def textT (c : Crv) (i : Int) : List ByteArray := (List.range i.toNat).map (nodeT c)
def textC (c : Crv) : ByteArray := if validV c then joinB (textT c (c.gX_n : Int)) (⟨#[32]⟩ : ByteArray) else ByteArray.empty
theorem textT_step {c : Crv} {i : Int} (h : 0 ≤ i) : textT c (i + 1) = textT c i ++ [nodeT c i.toNat] := by
  unfold textT
  rw [show (i + 1).toNat = i.toNat + 1 by omega, List.range_succ, List.map_append]; rfl
theorem textT_len (c : Crv) (i : Int) : (textT c i).length = i.toNat := by simp [textT]
theorem textT_size {c : Crv} (hX : c.gX_l.length = c.gX_n) (hY : c.gY_l.length = c.gX_n) (hv : validV c = true) {i : Int} (hi : i ≤ 32) (h : i ≤ (c.gX_n : Int)) : (joinB (textT c i) (⟨#[32]⟩ : ByteArray)).size ≤ 140737488355328 := by
  obtain ⟨hv1, hv2, hv3⟩ := validV_facts hv
  have hx2 := (axis_facts hv2).2.1
  have := joinB_size (l := textT c i) (sep := (⟨#[32]⟩ : ByteArray)) (k := 41) fun b hb => by
    obtain ⟨j, hj, rfl⟩ := List.mem_map.1 hb
    rw [List.mem_range] at hj
    have h1 := hx2 j (by omega)
    have h2 := hv3 j (by omega)
    have h3 := itoaB_size (n := c.gX_l.getD j 0) (by omega)
    have h4 := itoaB_size (n := c.gY_l.getD j 0) (by omega)
    unfold nodeT
    rw [ByteArray.size_append, ByteArray.size_append, show (⟨#[58]⟩ : ByteArray).size = 1 from rfl]; omega
  rw [textT_len, show (⟨#[32]⟩ : ByteArray).size = 1 from rfl] at this
  have : i.toNat * (41 + 1) ≤ 32 * 42 := Nat.mul_le_mul (by omega) (by omega)
  omega

theorem hb68 : HasBody Tryd.prog 68 := fun _ _ => by kernel_rfl
theorem itoa_any (n : Int) (w : World) (hn : -9223372036854775808 ≤ n ∧ n ≤ 9223372036854775807) (hW : TabW w) : Ret Tryd.prog 68 #[.int .i64 n] w (fun v w' => v = .string (itoaB n) ∧ Sep w [] w') :=
  Ret.of_calls (Tryd.strconv_Itoa n hn.1 hn.2 w hW) fun w' ⟨k, os, e⟩ => ⟨rfl, by subst e; exact .of_grow _ _ _⟩
theorem hb53 : HasBody Tryd.prog 53 := fun _ _ => by kernel_rfl
theorem join_any (la : Option Addr) (len cap : Nat) (l : List ByteArray) (sep : ByteArray) (w : World) (hI : Ones Value.string w la len l) (hp : ∀ p, la = some p → p = ⟨p.block, 0, none⟩) (hcap : len ≤ cap) (hN : len ≤ 140737488355328) (hs : (joinB l sep).size ≤ 140737488355328) :
    Ret Tryd.prog 53 #[.slice la len cap, .string sep] w (fun v w' => v = .string (joinB l sep) ∧ Sep w [] w') := by
  have hll := hI.len_eq
  by_cases h0 : len = 0
  · subst h0
    have hl : l = [] := List.eq_nil_of_length_eq_zero hll
    subst hl
    exact Ret.of_calls (Tryd.strings_Join_none la cap sep w) fun w' e => ⟨rfl, by subst e; exact .refl _⟩
  · obtain ⟨p, rfl, hc⟩ := hI.at ByteArray.empty 0 (by omega)
    have e := hp p rfl
    have hb := World.block_lt_of_cell? _ _ hc
    generalize hbk : p.block = bk at e
    subst e; subst hll
    exact Ret.of_calls (Tryd.strings_Join bk 0 cap l sep w (fun j x hx => by
      obtain ⟨q, hq, hcq⟩ := hI.cells j (Value.string x) (by rw [List.getElem?_map, hx]; rfl)
      cases hq; rw [add_plain] at hcq; exact hcq) hb hN hcap (by have h : (Lib.join (l.map (·.data.toList)) sep.data.toList).toArray.size ≤ 140737488355328 := hs; rw [List.size_toArray] at h; exact h)) fun w' hb => ⟨rfl, .of_below hb⟩
theorem hb52 : HasBody Tryd.prog 52 := fun _ _ => by kernel_rfl
noncomputable def K52_0 : List Item := adv 7 [] (bodyOf Tryd.f52)
noncomputable def K52_1 : List Item := adv 2 [] (popK K52_0)
set_option maxRecDepth 20000 in
set_option maxHeartbeats 20000000 in
theorem atext_any (n : Int) (w : World) (hn : -9223372036854775808 ≤ n ∧ n ≤ 9223372036854775807) (hW : TabW w) : Ret Tryd.prog 52 #[.int .i64 n] w (fun v w' => v = .string (itoaB n) ∧ Sep w [] w') := by
  have S0 := Sep.refl w
  refine Ret.named fun R hR => ?_
  refine Ret.of_J (N := 5) [(0, .int .i64 n)] Tryd.func52 rfl rfl (Nat.le_of_ble_eq_true (by kernel_rfl)) (by kernel_rfl) ?_
  refine J.run 7 K52_0 [(3, .int .i64 n)] w (by kernel_rfl) ?_
  refine J.callF 4 68 #[.int .i64 n] hb68 (by kernel_rfl) (itoa_any n _ (by omega) (tabW_sep hW S0)) ?_
  rintro _ w1 ⟨rfl, T1⟩
  have S1 : Sep w [] w1 := S0.trans T1
  clear T1
  have := itoaB_size (n := n) (by omega)
  refine J.run 2 K52_1 [(2, .string (itoaB n))] w1 (by kernel_rfl) ?_
  refine J.ret Tryd.f52 [.string (itoaB n)] Tryd.func52 ⟨by kernel_rfl, trivial⟩ ?_
  refine hR _ _ ?_
  exact ⟨rfl, S1.nil⟩

theorem hb32 : HasBody Tryd.prog 32 := fun _ _ => by kernel_rfl
noncomputable def K32_0 : List Item := adv 2 [] (bodyOf Tryd.f32)
noncomputable def K32_1 : List Item := adv 5 [] (popK K32_0)
noncomputable def K32_2 : List Item := adv 2 [] (popK (popK K32_1))
noncomputable def K32_3 : List Item := adv 10 [false] K32_2
noncomputable def K32_4 : List Item := adv 5 [] (popK K32_3)
noncomputable def K32_5 : List Item := adv 5 [] K32_4
noncomputable def K32_6 : List Item := adv 9 [true] K32_5
noncomputable def K32_7 : List Item := adv 3 [] (rRest K32_6)
noncomputable def K32_8 : List Item := adv 5 [false] K32_5
noncomputable def K32_9 : List Item := adv 2 [] (popK K32_8)
noncomputable def K32_10 : List Item := adv 5 [true] K32_2
set_option maxRecDepth 20000 in
set_option maxHeartbeats 20000000 in
theorem ctext_any (c : Crv) (w : World) (hc : crvQ w c) (hW : TabW w) : Ret Tryd.prog 32 #[.agg #[.slice c.gX_a c.gX_n c.gX_c, .slice c.gY_a c.gY_n c.gY_c]] w (fun v w' => v = .string (textC c) ∧ Sep w [] w') := by
  have S0 := Sep.refl w
  refine Ret.named fun R hR => ?_
  refine Ret.of_J (N := 34) [(0, .agg #[.slice c.gX_a c.gX_n c.gX_c, .slice c.gY_a c.gY_n c.gY_c])] Tryd.func32 rfl rfl (Nat.le_of_ble_eq_true (by kernel_rfl)) (by kernel_rfl) ?_
  obtain ⟨q1, q2, q3, q4, q5, q6, _⟩ := id hc
  have ql1 := q2.len_eq
  have ql2 := q5.len_eq
  refine J.run 2 K32_0 [(0, .agg #[.slice c.gX_a c.gX_n c.gX_c, .slice c.gY_a c.gY_n c.gY_c])] w (by kernel_rfl) ?_
  refine J.new S0 1 [.slice c.gX_a c.gX_n c.gX_c, .slice c.gY_a c.gY_n c.gY_c] 24 (by kernel_rfl) ?_
  intro b1 w1 S1
  refine J.run 5 K32_1 [(1, .pointer (some ⟨b1, 0, none⟩))] w1 (by kernel_rfl) ?_
  refine J.ok (OK.ldBox S1 0 5 24 0 (.agg #[.slice c.gX_a c.gX_n c.gX_c, .slice c.gY_a c.gY_n c.gY_c]) (by kernel_rfl) rfl (by kernel_rfl)) ?_
  refine J.callF 6 16 #[.agg #[.slice c.gX_a c.gX_n c.gX_c, .slice c.gY_a c.gY_n c.gY_c]] hb16 (by kernel_rfl) (cvalid_any c _ (crvQ_sep hc S1)) ?_
  rintro _ w2 ⟨rfl, T1⟩
  have S2 : Sep w [box b1 [.slice c.gX_a c.gX_n c.gX_c, .slice c.gY_a c.gY_n c.gY_c] 24] w2 := S1.trans T1
  clear T1 S1
  refine J.run 2 K32_2 [(7, .bool (!(validV c))), (1, .pointer (some ⟨b1, 0, none⟩))] w2 (by kernel_rfl) ?_
  rcases Bool.eq_false_or_eq_true (validV c) with fk1 | fk1
  · skip
    refine J.head (.bool false) (congrArg Value.bool (by rw [fk1]; rfl)) ?_
    have hv := fk1
    obtain ⟨hv1, hv2, hv3⟩ := validV_facts hv
    obtain ⟨hx1, hx2, hx3⟩ := axis_facts hv2
    have hX : c.gX_l.length = c.gX_n := by omega
    have hY : c.gY_l.length = c.gX_n := by omega
    have hxm := axis_mono hv2 (show 0 < ((c.gX_n : Int) - 1).toNat by omega) (by omega)
    have hx0 := hx2 0 (by omega)
    have hxl := hx2 ((c.gX_n : Int) - 1).toNat (by omega)
    have hdv : dirV c = dirL c.gY_l := by unfold dirV; rw [hv]; rfl
    have hyn : ((c.gY_n : Int) - 1).toNat = ((c.gX_n : Int) - 1).toNat := by omega
    refine J.run 10 K32_3 [(8, .pointer (some ⟨b1, 0, none⟩)), (3, .slice none 0 0), (1, .pointer (some ⟨b1, 0, none⟩))] w2 (by kernel_rfl) ?_
    refine J.ok (OK.ldBox S2 0 9 22 0 (.slice c.gX_a c.gX_n c.gX_c) (by kernel_rfl) rfl (by kernel_rfl)) ?_
    refine J.run 5 K32_4 [(11, .int .i64 0), (10, .int .i64 (c.gX_n : Int)), (3, .slice none 0 0), (1, .pointer (some ⟨b1, 0, none⟩))] w2 (by kernel_rfl) ?_
    have S3 : Sep w [rowOf (enc1 Value.string) none 0 9 1 ([]), box b1 [.slice c.gX_a c.gX_n c.gX_c, .slice c.gY_a c.gY_n c.gY_c] 24] w2 := S2.nilRow 9 1
    have L32_1 : ∀ (mm_ : Nat) (ra : Option Addr) (rc : Nat) (ls : List ByteArray) (i : Int) (w3 : World), (0 ≤ i) → (i ≤ (c.gX_n : Int)) → (ls = textT c i) → Sep w [rowOf (enc1 Value.string) ra rc 9 1 ls, box b1 [.slice c.gX_a c.gX_n c.gX_c, .slice c.gY_a c.gY_n c.gY_c] 24] w3 → ((c.gX_n : Int) - i).toNat = mm_ → J Tryd.prog 32 34 R K32_4 [(11, .int .i64 i), (10, .int .i64 (c.gX_n : Int)), (3, .slice ra ls.length rc), (1, .pointer (some ⟨b1, 0, none⟩))] w3 := by
      intro mm1
      induction mm1 using Nat.strongRecOn with
      | _ mm1 ih1 =>
      intro ra rc ls i w3 h0 h1 hls S4 hm1
      have hlsl := textT_len c i; rw [← hls] at hlsl
      refine J.run 5 K32_5 [(12, .bool (decide (i < (c.gX_n : Int)))), (11, .int .i64 i), (10, .int .i64 (c.gX_n : Int)), (3, .slice ra ls.length rc), (1, .pointer (some ⟨b1, 0, none⟩))] w3 (by kernel_rfl) ?_
      by_cases fk2 : i < (c.gX_n : Int)
      · skip
        refine J.head (.bool true) (congrArg Value.bool (decide_eq_true fk2)) ?_
        have hA1 := hx2 (i).toNat (by omega)
        have hB1 := hv3 (i).toNat (by omega)
        refine J.run 9 K32_6 [(4, .int .i64 i), (11, .int .i64 i), (10, .int .i64 (c.gX_n : Int)), (3, .slice ra ls.length rc), (1, .pointer (some ⟨b1, 0, none⟩))] w3 (by kernel_rfl) ?_
        obtain ⟨p1, hp1, hc1⟩ := q2.at 0 (i).toNat (by omega)
        have hel1 := getD_Q q3 0 (n := (i).toNat) (by have := q2.len_eq; omega)
        obtain ⟨p2, hp2, hc2⟩ := q5.at 0 (i).toNat (by omega)
        have hel2 := getD_Q q6 0 (n := (i).toNat) (by have := q5.len_eq; omega)
        refine J.drawPlan (fun w_ => Sep w [box b1 [.slice c.gX_a c.gX_n c.gX_c, .slice c.gY_a c.gY_n c.gY_c] 24] w_) [(0, true), (1, true), (2, true), (3, true), (4, true), (5, true), (8, true), (9, true), (10, true), (11, true), (12, true), (6, false), (7, true), (13, false), (14, true), (15, false), (16, false), (17, true)] S4 Tryd.mixed (by kernel_rfl) (planOK_of (T := [(0, some 14, 8), (0, some 15, 2), (2, some 16, 32768), (0, some 17, 16), (12, some 18, 196608), (16, some 19, 262144), (32, some 20, 524288), (64, some 21, 1048576), (0, some 22, 2), (256, some 23, 4194304), (0, some 24, 16), (1536, some 25, 25165824), (2048, some 26, 33554432), (4160, some 27, 67108864), (8320, some 28, 136314880), (16384, some 29, 268435456), (40961, some 30, 536887296), (131071, some 3, 1073741824)]) (by kernel_rfl) (by kernel_rfl)) ?_
        intro w4 S5
        refine PB.mk (S5.sub (.cons _ (.cons_cons _ (.slnil)))) ?_
        refine PL.take 0 14 (.slice ra ls.length rc) (fun _ _ => by kernel_rfl) ?_
        refine PL.take 1 15 (.pointer (some ⟨b1, 0, none⟩)) (fun _ _ => by kernel_rfl) ?_
        refine PL.takeOK 2 (fun w_ S_ => OK.ldBox S_ 0 16 22 0 (.slice c.gX_a c.gX_n c.gX_c) (by kernel_rfl) rfl (by kernel_rfl)) rfl ?_
        refine PL.take 3 17 (.int .i64 i) (fun _ _ => by kernel_rfl) ?_
        refine PL.takeOK 4 (fun w_ S_ => OK.index 18 22 1 c.gX_a p1 c.gX_n (i).toNat i (p1.add (i).toNat) (by kernel_rfl) (by kernel_rfl) hp1 (by omega) (by omega) (by rw [Nat.mul_one])) rfl ?_
        refine PL.takeOK 5 (fun w_ S_ => OK.ldCell 19 3 (p1.add (i).toNat) (.int .i64 (c.gX_l.getD (i).toNat 0)) (by kernel_rfl) (by kernel_rfl) (S_.cell hc1)) rfl ?_
        refine PL.take 8 22 (.pointer (some ⟨b1, 1, none⟩)) (fun _ _ => by kernel_rfl) ?_
        refine PL.takeOK 9 (fun w_ S_ => OK.ldBox S_ 0 23 22 1 (.slice c.gY_a c.gY_n c.gY_c) (by kernel_rfl) rfl (by kernel_rfl)) rfl ?_
        refine PL.take 10 24 (.int .i64 i) (fun _ _ => by kernel_rfl) ?_
        refine PL.takeOK 11 (fun w_ S_ => OK.index 25 22 1 c.gY_a p2 c.gY_n (i).toNat i (p2.add (i).toNat) (by kernel_rfl) (by kernel_rfl) hp2 (by omega) (by omega) (by rw [Nat.mul_one])) rfl ?_
        refine PL.takeOK 12 (fun w_ S_ => OK.ldCell 26 3 (p2.add (i).toNat) (.int .i64 (c.gY_l.getD (i).toNat 0)) (by kernel_rfl) (by kernel_rfl) (S_.cell hc2)) rfl ?_
        refine PL.callF 20 52 #[.int .i64 (c.gX_l.getD (i).toNat 0)] hb52 (by kernel_rfl) (atext_any (c.gX_l.getD (i).toNat 0) _ (by omega) (tabW_sep hW S5)) ?_
        rintro _ w5 ⟨rfl, T2⟩
        have S6 : Sep w [rowOf (enc1 Value.string) ra rc 9 1 ls, box b1 [.slice c.gX_a c.gX_n c.gX_c, .slice c.gY_a c.gY_n c.gY_c] 24] w5 := S5.trans T2
        clear T2 S5
        have := itoaB_size (n := (c.gX_l.getD (i).toNat 0)) (by omega)
        refine PB.mk (S6.sub (.cons _ (.cons_cons _ (.slnil)))) ?_
        refine PL.takeOK 7 (fun w_ S_ => OK.cat 21 (itoaB (c.gX_l.getD (i).toNat 0)) (⟨#[58]⟩) ((itoaB (c.gX_l.getD (i).toNat 0)) ++ (⟨#[58]⟩)) (by kernel_rfl) (by first | omega | (simp only [ByteArray.size_append]; omega) | (simp only [ByteArray.size_append, lit_size, List.size_toArray, List.length_cons, List.length_nil]; omega) | (simp; omega)) (rfl)) rfl ?_
        refine PL.callF 27 52 #[.int .i64 (c.gY_l.getD (i).toNat 0)] hb52 (by kernel_rfl) (atext_any (c.gY_l.getD (i).toNat 0) _ (by omega) (tabW_sep hW S6)) ?_
        rintro _ w6 ⟨rfl, T3⟩
        have S7 : Sep w [rowOf (enc1 Value.string) ra rc 9 1 ls, box b1 [.slice c.gX_a c.gX_n c.gX_c, .slice c.gY_a c.gY_n c.gY_c] 24] w6 := S6.trans T3
        clear T3 S6
        have := itoaB_size (n := (c.gY_l.getD (i).toNat 0)) (by omega)
        refine PB.mk (S7.sub (.cons _ (.cons_cons _ (.slnil)))) ?_
        refine PL.takeOK 14 (fun w_ S_ => OK.cat 28 ((itoaB (c.gX_l.getD (i).toNat 0)) ++ (⟨#[58]⟩)) (itoaB (c.gY_l.getD (i).toNat 0)) (((itoaB (c.gX_l.getD (i).toNat 0)) ++ (⟨#[58]⟩)) ++ (itoaB (c.gY_l.getD (i).toNat 0))) (by kernel_rfl) (by first | omega | (simp only [ByteArray.size_append]; omega) | (simp only [ByteArray.size_append, lit_size, List.size_toArray, List.length_cons, List.length_nil]; omega) | (simp; omega)) (rfl)) rfl ?_
        refine PL.newSlice S7 29 1 [.string (((itoaB (c.gX_l.getD (i).toNat 0)) ++ (⟨#[58]⟩)) ++ (itoaB (c.gY_l.getD (i).toNat 0)))] 9 (by kernel_rfl) ?_
        intro b2 w7 S8
        refine PB.mk (S8.sub (.cons _ (.cons _ (.cons_cons _ (.slnil))))) ?_
        refine PL.append (enc1 Value.string) S8 1 ls (((itoaB (c.gX_l.getD (i).toNat 0)) ++ (⟨#[58]⟩)) ++ (itoaB (c.gY_l.getD (i).toNat 0))) 30 73 (.string ByteArray.empty) 16 ⟨b2, 0, none⟩ 1 rfl (by kernel_rfl) (by kernel_rfl) (by kernel_rfl) (by kernel_rfl) (by decide) (box_cells (S8.nth 0 rfl)) (by kernel_rfl) (by kernel_rfl) (⟨by omega, by omega⟩) ?_
        intro ra1 rc1 w8 S9
        replace S9 : Sep w [box b2 [.string (((itoaB (c.gX_l.getD (i).toNat 0)) ++ (⟨#[58]⟩)) ++ (itoaB (c.gY_l.getD (i).toNat 0)))] 9, rowOf (enc1 Value.string) ra1 rc1 9 1 (ls ++ [(((itoaB (c.gX_l.getD (i).toNat 0)) ++ (⟨#[58]⟩)) ++ (itoaB (c.gY_l.getD (i).toNat 0)))]), box b1 [.slice c.gX_a c.gX_n c.gX_c, .slice c.gY_a c.gY_n c.gY_c] 24] w8 := S9
        have S10 : Sep w [rowOf (enc1 Value.string) ra1 rc1 9 1 (ls ++ [(((itoaB (c.gX_l.getD (i).toNat 0)) ++ (⟨#[58]⟩)) ++ (itoaB (c.gY_l.getD (i).toNat 0)))]), box b1 [.slice c.gX_a c.gX_n c.gX_c, .slice c.gY_a c.gY_n c.gY_c] 24] w8 := S9.erase 0
        clear S9
        refine PB.mk (S10.sub (.cons _ (.cons_cons _ (.slnil)))) ?_
        refine PL.take 17 3 (.slice ra1 ((ls ++ [(((itoaB (c.gX_l.getD (i).toNat 0)) ++ (⟨#[58]⟩)) ++ (itoaB (c.gY_l.getD (i).toNat 0)))]).length) rc1) (fun _ _ => by kernel_rfl) ?_
        refine PL.done ?_
        refine J.run 0 (rRest K32_6) [(3, .slice ra1 ((ls ++ [(((itoaB (c.gX_l.getD (i).toNat 0)) ++ (⟨#[58]⟩)) ++ (itoaB (c.gY_l.getD (i).toNat 0)))]).length) rc1), (11, .int .i64 i), (10, .int .i64 (c.gX_n : Int)), (1, .pointer (some ⟨b1, 0, none⟩))] w8 (by kernel_rfl) ?_
        refine J.run 3 K32_7 [(31, .int .i64 (IntKind.wrap .i64 (i + 1))), (3, .slice ra1 ((ls ++ [(((itoaB (c.gX_l.getD (i).toNat 0)) ++ (⟨#[58]⟩)) ++ (itoaB (c.gY_l.getD (i).toNat 0)))]).length) rc1), (10, .int .i64 (c.gX_n : Int)), (1, .pointer (some ⟨b1, 0, none⟩))] w8 (by kernel_rfl) ?_
        refine J.head (.int .i64 (i + 1)) (congrArg (Value.int .i64) (IntWalk.i64_in _ (by omega))) ?_
        refine J.run 3 K32_4 [(11, .int .i64 (i + 1)), (3, .slice ra1 ((ls ++ [(((itoaB (c.gX_l.getD (i).toNat 0)) ++ (⟨#[58]⟩)) ++ (itoaB (c.gY_l.getD (i).toNat 0)))]).length) rc1), (10, .int .i64 (c.gX_n : Int)), (1, .pointer (some ⟨b1, 0, none⟩))] w8 (by kernel_rfl) ?_
        refine J.run 0 K32_4 [(11, .int .i64 (i + 1)), (10, .int .i64 (c.gX_n : Int)), (3, .slice ra1 ((ls ++ [(((itoaB (c.gX_l.getD (i).toNat 0)) ++ (⟨#[58]⟩)) ++ (itoaB (c.gY_l.getD (i).toNat 0)))]).length) rc1), (1, .pointer (some ⟨b1, 0, none⟩))] w8 (by kernel_rfl) ?_
        exact ih1 _ (show ((c.gX_n : Int) - (i + 1)).toNat < mm1 from by omega) ra1 rc1 (ls ++ [(((itoaB (c.gX_l.getD (i).toNat 0)) ++ (⟨#[58]⟩)) ++ (itoaB (c.gY_l.getD (i).toNat 0)))]) (i + 1) w8 (by omega) (by omega) (by rw [hls, textT_step h0]; rfl) S10 rfl
      · skip
        refine J.head (.bool false) (congrArg Value.bool (decide_eq_false fk2)) ?_
        refine J.run 5 K32_8 [(32, .slice ra ls.length rc)] w3 (by kernel_rfl) ?_
        refine J.callF 33 53 #[.slice ra ls.length rc, .string ⟨#[32]⟩] hb53 (by kernel_rfl) (join_any ra ls.length rc ls (⟨#[32]⟩) _ (row1_ones (S4.nth 0 rfl) _ rfl) (rowOf_plain (S4.nth 0 rfl)) (rowOf_cells (S4.nth 0 rfl)).2.2 (by omega) (by rw [hls]; exact textT_size hX (by omega) hv (by omega) (by omega))) ?_
        rintro _ w9 ⟨rfl, T4⟩
        have S11 : Sep w [rowOf (enc1 Value.string) ra rc 9 1 ls, box b1 [.slice c.gX_a c.gX_n c.gX_c, .slice c.gY_a c.gY_n c.gY_c] 24] w9 := S4.trans T4
        clear T4 S4
        refine J.run 2 K32_9 [(2, .string (joinB ls (⟨#[32]⟩)))] w9 (by kernel_rfl) ?_
        refine J.ret Tryd.f32 [.string (joinB ls (⟨#[32]⟩))] Tryd.func32 ⟨by kernel_rfl, trivial⟩ ?_
        refine hR _ _ ?_
        exact ⟨congrArg Value.string (by unfold textC; rw [if_pos hv, hls, show i = (c.gX_n : Int) by omega]), S11.nil⟩
    exact L32_1 _ none 0 ([]) 0 w2 (by omega) (by omega) (rfl) S3 rfl
  · skip
    refine J.head (.bool true) (congrArg Value.bool (by rw [fk1]; rfl)) ?_
    refine J.run 5 K32_10 [(2, .string ByteArray.empty)] w2 (by kernel_rfl) ?_
    refine J.ret Tryd.f32 [.string ByteArray.empty] Tryd.func32 ⟨by kernel_rfl, trivial⟩ ?_
    refine hR _ _ ?_
    exact ⟨congrArg Value.string (by unfold textC; rw [fk1]; rfl), S2.nil⟩

end Go.Proofs.YtdilhoibcbihlaaDoor

