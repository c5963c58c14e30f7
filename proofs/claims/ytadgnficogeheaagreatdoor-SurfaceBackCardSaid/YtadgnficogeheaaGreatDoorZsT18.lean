/- Walks of functions of this seat, printed by a program over the engine. Conditions: as each theorem says. -/
import Derived.Test.YtadgnficogeheaaGreatDoorZsT17
namespace Go.Proofs.YtadgnficogeheaaGreatDoor
noncomputable section
open Go.Eng Go.RowKit
set_option linter.unusedSimpArgs false
set_option linter.unusedVariables false
theorem hb33 : HasBody Tryz.prog 33 := fun _ _ => by kernel_rfl
def K33_0 := adv 7 [] (bodyOf Tryz.f33)
def K33_1 := adv 3 [] (popK K33_0)
set_option maxRecDepth 20000 in
set_option maxHeartbeats 20000000 in
theorem notcanon_any (s : ByteArray) (w : World) (hs : s.size ≤ 9223372036854775807) : Ret Tryz.prog 33 #[.string s] w (fun v w' => v = .bool (!formL (ls s)) ∧ Sep w [] w') := by
 have S0 := Sep.refl w
 refine Ret.named fun R hR => ?_
 refine Ret.of_J (N := 6) [(0, .string s)] Tryz.func33 rfl rfl (Nat.le_of_ble_eq_true (by kernel_rfl)) (by kernel_rfl) ?_
 refine J.run 7 K33_0 [(3, .string s)] w (by kernel_rfl) ?_
 refine J.callF 4 34 #[.string s] hb34 (by kernel_rfl) (canonical_any s _ (by omega)) ?_
 rintro _ w1 ⟨rfl, T1⟩
 have S1 : Sep w [] w1 := S0.trans T1
 clear T1
 refine J.run 3 K33_1 [(2, .bool (!(formL (ls s))))] w1 (by kernel_rfl) ?_
 refine J.ret Tryz.f33 [.bool (!(formL (ls s)))] Tryz.func33 ⟨by kernel_rfl, trivial⟩ ?_
 refine hR _ _ ?_
 exact ⟨rfl, S1.nil⟩

theorem hb36 : HasBody Tryz.prog 36 := fun _ _ => by kernel_rfl
def K36_0 := adv 7 [] (bodyOf Tryz.f36)
def K36_1 := adv 12 [] (popK K36_0)
def K36_2 := adv 7 [false] K36_1
def K36_3 := adv 5 [true] K36_1
set_option maxRecDepth 20000 in
set_option maxHeartbeats 20000000 in
theorem numP_any (s : ByteArray) (w : World) (hs : s.size ≤ 1000000) (hW : TabW w) : Ret Tryz.prog 36 #[.string s] w (fun v w' => v = iv (numP s) ∧ Sep w [] w') := by
 have S0 := Sep.refl w
 refine Ret.named fun R hR => ?_
 refine Ret.of_J (N := 13) [(0, .string s)] Tryz.func36 rfl rfl (Nat.le_of_ble_eq_true (by kernel_rfl)) (by kernel_rfl) ?_
 refine J.run 7 K36_0 [(6, .string s)] w (by kernel_rfl) ?_
 refine J.callF 7 37 #[.string s] hb37 (by kernel_rfl) (aparse_any s _ (by omega) (tabW_sep hW S0)) ?_
 rintro _ w1 ⟨rfl, T1⟩
 have S1 : Sep w [] w1 := S0.trans T1
 clear T1
 have := par_bounds s
 refine J.run 12 K36_1 [(11, .bool ((parE s) != 0)), (3, iv (parX s))] w1 (by kernel_rfl) ?_
 by_cases fk1 : (parE s) = 0
 rotate_left
 ·skip
  refine J.head (.bool true) (congrArg Value.bool (bne_iff_ne.2 fk1)) ?_
  refine J.run 5 K36_3 [(2, iv 1073741825)] w1 (by kernel_rfl) ?_
  refine J.ret Tryz.f36 [iv 1073741825] Tryz.func36 ⟨by kernel_rfl, trivial⟩ ?_
  refine hR _ _ ?_
  exact ⟨by unfold numP; rw [if_neg fk1]; rfl, S1.nil⟩
 refine J.head (.bool false) (congrArg Value.bool (bne_eq_false_iff_eq.2 fk1)) ?_
 refine J.run 7 K36_2 [(2, iv (parX s))] w1 (by kernel_rfl) ?_
 refine J.ret Tryz.f36 [iv (parX s)] Tryz.func36 ⟨by kernel_rfl, trivial⟩ ?_
 refine hR _ _ ?_
 exact ⟨by unfold numP; rw [if_pos fk1]; rfl, S1.nil⟩

theorem drop_size (s : ByteArray) (i : Nat) : (((piecesB 32 s).drop 1).getD i ByteArray.empty).size ≤ s.size := by
  rw [List.getD_eq_getElem?_getD, List.getElem?_drop, ← List.getD_eq_getElem?_getD]; exact piece_size 32 s (1 + i)
theorem any_not {α : Type} (q : α → Bool) (l : List α) : (l.any fun x => !q x) = !l.all q := by rw [← List.not_all_eq_any_not]
theorem ln_few {wd : ByteArray} {ps : List ByteArray} (h : ps.length < 2) : lnOK wd ps = false := by unfold lnOK; rw [decide_eq_false (by omega)]; rfl
theorem ln_word {wd : ByteArray} {ps : List ByteArray} (h : ((ps.getD 0 ByteArray.empty).toList == wd.toList) = false) : lnOK wd ps = false := by unfold lnOK eqT6; rw [h]; simp
theorem ln_form {wd : ByteArray} {ps : List ByteArray} (h : ((ps.drop 1).any fun p => !formL (ls p)) = true) : lnOK wd ps = false := by
  unfold lnOK; rw [any_not] at h; rw [show ((ps.drop 1).all fun p => formL (ls p)) = false by simpa using h, Bool.and_false]
theorem ln_ok {wd : ByteArray} {ps : List ByteArray} (h : ¬ ps.length < 2) (h2 : ((ps.getD 0 ByteArray.empty).toList == wd.toList) = true) (h3 : ((ps.drop 1).any fun p => !formL (ls p)) = false) : lnOK wd ps = true := by
  unfold lnOK eqT6; rw [any_not] at h3; rw [decide_eq_true (by omega), h2, show ((ps.drop 1).all fun p => formL (ls p)) = true by simpa using h3]; rfl
theorem hb49 : HasBody Tryz.prog 49 := fun _ _ => by kernel_rfl
def K49_0 := adv 13 [] (bodyOf Tryz.f49)
def K49_1 := adv 5 [] K49_0
def K49_2 := adv 14 [true] K49_1
def K49_3 := adv 1 [] (popK (popK (popK K49_2)))
def K49_4 := adv 6 [true] K49_3
def K49_5 := adv 5 [false] K49_3
def K49_6 := adv 6 [false] K49_1
set_option maxRecDepth 20000 in
set_option maxHeartbeats 20000000 in
theorem indexS0 (la : Option Addr) (len cap : Nat) (l : List ByteArray) (g : FuncId) (q : ByteArray → Bool) (w : World) (hI : Ones Value.string w la len l) (hlen : len ≤ 9223372036854775807) (hbg : HasBody Tryz.prog g) (hcall : ∀ (i : Nat) (w2 : World), i < l.length → Sep w [] w2 → Ret Tryz.prog g #[.string (l.getD i ByteArray.empty)] w2 (fun v w3 => v = .bool (q (l.getD i ByteArray.empty)) ∧ Sep w2 [] w3)) : Ret Tryz.prog 49 #[.slice la len cap, .func (.func g) #[] #[]] w (fun v w' => v = iv (indexF q l) ∧ Sep w [] w') := by
 have S0 := Sep.refl w
 refine Ret.named fun R hR => ?_
 refine Ret.of_J (N := 19) [(0, .slice la len cap), (1, .func (.func g) #[] #[])] Tryz.func49 rfl rfl (Nat.le_of_ble_eq_true (by kernel_rfl)) (by kernel_rfl) ?_
 refine J.run 13 K49_0 [(8, iv 0), (7, iv (len : Int)), (0, .slice la len cap), (1, .func (.func g) #[] #[])] w (by kernel_rfl) ?_
 have L49_1 : ∀ (mm_ : Nat) (i : Int) (w1 : World), (0 ≤ i) → (i ≤ (len : Int)) → (∀ j, j < (i).toNat → q (l.getD j ByteArray.empty) = false) → Sep w [] w1 → ((len : Int) - i).toNat = mm_ → J Tryz.prog 49 19 R K49_0 [(8, iv i), (7, iv (len : Int)), (0, .slice la len cap), (1, .func (.func g) #[] #[])] w1 := by
  intro mm1
  induction mm1 using Nat.strongRecOn with
  | _ mm1 ih1 =>
  intro i w1 h0 h1 hq S1 hm1
  refine J.run 5 K49_1 [(9, .bool (decide (i < (len : Int)))), (8, iv i), (7, iv (len : Int)), (0, .slice la len cap), (1, .func (.func g) #[] #[])] w1 (by kernel_rfl) ?_
  by_cases fk1 : i < (len : Int)
  rotate_left
  ·skip
   refine J.head (.bool false) (congrArg Value.bool (decide_eq_false fk1)) ?_
   refine J.run 6 K49_6 [(4, iv (-1))] w1 (by kernel_rfl) ?_
   refine J.ret Tryz.f49 [iv (-1)] Tryz.func49 ⟨by kernel_rfl, trivial⟩ ?_
   refine hR _ _ ?_
   exact ⟨by rw [tup_one, indexF_none ByteArray.empty fun j hj => hq j (by have := hI.len_eq; omega)], S1.nil⟩
  refine J.head (.bool true) (congrArg Value.bool (decide_eq_true fk1)) ?_
  refine J.run 14 K49_2 [(13, iv i), (12, .slice la len cap), (11, .func (.func g) #[] #[]), (5, iv i), (8, iv i), (7, iv (len : Int)), (0, .slice la len cap), (1, .func (.func g) #[] #[])] w1 (by kernel_rfl) ?_
  obtain ⟨p1, hp1, hc1⟩ := hI.at ByteArray.empty (i).toNat (by omega)
  refine J.ok (OK.index 14 41 1 la p1 len (i).toNat i (p1.add (i).toNat) (by kernel_rfl) (by kernel_rfl) hp1 (by omega) (by omega) (by rw [Nat.mul_one])) ?_
  refine J.ok (OK.ldCell 15 9 (p1.add (i).toNat) (.string (l.getD (i).toNat ByteArray.empty)) (by kernel_rfl) (by kernel_rfl) (S1.cell hc1)) ?_
  refine J.callF 16 g #[.string (l.getD (i).toNat ByteArray.empty)] hbg (by kernel_rfl) (hcall (i).toNat w1 (by have := hI.len_eq; omega) S1.nil) ?_
  rintro _ w2 ⟨rfl, T1⟩
  have S2 : Sep w [] w2 := S1.trans T1
  clear T1 S1
  refine J.run 1 K49_3 [(16, .bool (q (l.getD (i).toNat ByteArray.empty))), (5, iv i), (8, iv i), (7, iv (len : Int)), (0, .slice la len cap), (1, .func (.func g) #[] #[])] w2 (by kernel_rfl) ?_
  rcases Bool.eq_false_or_eq_true (q (l.getD (i).toNat ByteArray.empty)) with fk2 | fk2
  ·skip
   refine J.head (.bool true) (congrArg Value.bool fk2) ?_
   refine J.run 6 K49_4 [(4, iv i)] w2 (by kernel_rfl) ?_
   refine J.ret Tryz.f49 [iv i] Tryz.func49 ⟨by kernel_rfl, trivial⟩ ?_
   refine hR _ _ ?_
   exact ⟨by rw [tup_one, indexF_some ByteArray.empty i.toNat (by have := hI.len_eq; omega) hq fk2, Int.toNat_of_nonneg h0], S2.nil⟩
  refine J.head (.bool false) (congrArg Value.bool fk2) ?_
  refine J.run 5 K49_5 [(18, iv (IntKind.wrap .i64 (i + 1))), (7, iv (len : Int)), (0, .slice la len cap), (1, .func (.func g) #[] #[])] w2 (by kernel_rfl) ?_
  refine J.head (iv (i + 1)) (congrArg (Value.int .i64) (IntWalk.i64_in _ (by omega))) ?_
  refine J.run 3 K49_0 [(8, iv (i + 1)), (7, iv (len : Int)), (0, .slice la len cap), (1, .func (.func g) #[] #[])] w2 (by kernel_rfl) ?_
  refine J.run 0 K49_0 [(8, iv (i + 1)), (7, iv (len : Int)), (0, .slice la len cap), (1, .func (.func g) #[] #[])] w2 (by kernel_rfl) ?_
  exact ih1 _ (show ((len : Int) - (i + 1)).toNat < mm1 from by omega) (i + 1) w2 (by omega) (by omega) (by intro j hj; by_cases e : j = i.toNat; (subst e; exact fk2); exact hq j (by omega)) S2 rfl
 exact L49_1 _ 0 w (by omega) (by omega) (by intro j hj; simp at hj) S0 rfl

theorem hb32 : HasBody Tryz.prog 32 := fun _ _ => by kernel_rfl
def K32_0 := adv 8 [] (bodyOf Tryz.f32)
def K32_1 := adv 3 [] (popK K32_0)
set_option maxRecDepth 20000 in
set_option maxHeartbeats 20000000 in
theorem containsS0 (la : Option Addr) (len cap : Nat) (l : List ByteArray) (g : FuncId) (q : ByteArray → Bool) (w : World) (hI : Ones Value.string w la len l) (hlen : len ≤ 9223372036854775807) (hbg : HasBody Tryz.prog g) (hcall : ∀ (i : Nat) (w2 : World), i < l.length → Sep w [] w2 → Ret Tryz.prog g #[.string (l.getD i ByteArray.empty)] w2 (fun v w3 => v = .bool (q (l.getD i ByteArray.empty)) ∧ Sep w2 [] w3)) : Ret Tryz.prog 32 #[.slice la len cap, .func (.func g) #[] #[]] w (fun v w' => v = .bool (l.any q) ∧ Sep w [] w') := by
 have S0 := Sep.refl w
 refine Ret.named fun R hR => ?_
 refine Ret.of_J (N := 9) [(0, .slice la len cap), (1, .func (.func g) #[] #[])] Tryz.func32 rfl rfl (Nat.le_of_ble_eq_true (by kernel_rfl)) (by kernel_rfl) ?_
 refine J.run 8 K32_0 [(6, .func (.func g) #[] #[]), (5, .slice la len cap)] w (by kernel_rfl) ?_
 refine J.callF 7 49 #[.slice la len cap, .func (.func g) #[] #[]] hb49 (by kernel_rfl) (indexS0 la len cap l g  q _ (hI.sep S0) (by first | omega | (simp; omega)) hbg (hcall)) ?_
 rintro _ w1 ⟨rfl, T1⟩
 have S1 : Sep w [] w1 := S0.trans T1
 clear T1
 refine J.run 3 K32_1 [(4, .bool (decide ((indexF q l) ≥ 0)))] w1 (by kernel_rfl) ?_
 refine J.ret Tryz.f32 [.bool (decide ((indexF q l) ≥ 0))] Tryz.func32 ⟨by kernel_rfl, trivial⟩ ?_
 refine hR _ _ ?_
 exact ⟨congrArg Value.bool (by first | exact indexF_nonneg), S1.nil⟩

theorem hb17 : HasBody Tryz.prog 17 := fun _ _ => by kernel_rfl
theorem split32_any (s : ByteArray) (w : World) (hs : s.size < 4294967281) (hW : TabW w) : Ret Tryz.prog 17 #[.string s, .string ⟨#[32]⟩] w (fun v w' => ∃ b, v = .slice (some ⟨b, 0, none⟩) (piecesB 32 s).length (piecesB 32 s).length ∧ Sep w [box b ((piecesB 32 s).map Value.string) 9] w') := by
  obtain ⟨m, hm⟩ := hW.2.2.2
  refine Calls.mono (Tryz.strings_Split s ⟨#[32]⟩ m w hs hm (Nat.le_refl 1)) fun e w' ⟨he, hw⟩ => ?_
  subst he hw
  rw [splitB_len, splitB_pieces]
  exact ⟨_, rfl, _, rfl, Sep.of_alloc _ _ _⟩
theorem split10_any (s : ByteArray) (w : World) (hs : s.size < 4294967281) (hW : TabW w) : Ret Tryz.prog 17 #[.string s, .string ⟨#[10]⟩] w (fun v w' => ∃ b, v = .slice (some ⟨b, 0, none⟩) (piecesB 10 s).length (piecesB 10 s).length ∧ Sep w [box b ((piecesB 10 s).map Value.string) 9] w') := by
  obtain ⟨m, hm⟩ := hW.2.2.2
  refine Calls.mono (Tryz.strings_Split s ⟨#[10]⟩ m w hs hm (Nat.le_refl 1)) fun e w' ⟨he, hw⟩ => ?_
  subst he hw
  rw [splitB_len, splitB_pieces]
  exact ⟨_, rfl, _, rfl, Sep.of_alloc _ _ _⟩
end
end Go.Proofs.YtadgnficogeheaaGreatDoor

