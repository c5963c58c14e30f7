/- Walks of functions of this seat, printed by a program over the engine. Conditions: as each theorem says. -/
import Derived.Test.YtadgnficogeheaaGreatDoorZsT18
namespace Go.Proofs.YtadgnficogeheaaGreatDoor
noncomputable section
open Go.Eng Go.RowKit
set_option linter.unusedSimpArgs false
set_option linter.unusedVariables false
theorem nb6 {a u : Bool} (h : (!a) = u) : a = !u := by cases a <;> subst h <;> rfl
/-- what 'numbers' gives for a line that is not right: no numbers -/
def nuV (wd s : ByteArray) : List Int := if lnOK wd (piecesB 32 s) then lnV (piecesB 32 s) else []
theorem hb18 : HasBody Tryz.prog 18 := fun _ _ => by kernel_rfl
def K18_0 := adv 8 [] (bodyOf Tryz.f18)
def K18_1 := adv 9 [] (popK K18_0)
def K18_2 := adv 18 [true] K18_1
def K18_3 := adv 1 [] K18_1
def K18_4 := adv 4 [] (popK (popK K18_3))
def K18_5 := adv 11 [true] K18_4
def K18_6 := adv 1 [] K18_4
def K18_7 := adv 2 [] (popK (popK K18_6))
def K18_8 := adv 6 [true] K18_7
def K18_9 := adv 5 [false] K18_7
def K18_10 := adv 3 [] (popK (popK K18_9))
set_option maxRecDepth 20000 in
set_option maxHeartbeats 20000000 in
theorem numbers_any (s wd : ByteArray) (w : World) (hs : s.size ≤ 1000000) (hW : TabW w) : Ret Tryz.prog 18 #[.string s, .string wd] w (fun v w' => ∃ a c, v = .tuple #[.slice a (nuV wd s).length c, .bool (lnOK wd (piecesB 32 s))] ∧ Sep w [rowOf Eng.encI a c 3 1 (nuV wd s)] w') := by
 have S0 := Sep.refl w
 refine Ret.named fun R hR => ?_
 refine Ret.of_J (N := 27) [(0, .string s), (1, .string wd)] Tryz.func18 rfl rfl (Nat.le_of_ble_eq_true (by kernel_rfl)) (by kernel_rfl) ?_
 refine J.run 8 K18_0 [(7, .string s), (1, .string wd)] w (by kernel_rfl) ?_
 refine J.callF 8 17 #[.string s, .string ⟨#[32]⟩] hb17 (by kernel_rfl) (split32_any s _ (by omega) (tabW_sep hW S0)) ?_
 rintro _ w1 ⟨b1, rfl, T1⟩
 have S1 : Sep w [box b1 ((piecesB 32 s).map Value.string) 9] w1 := S0.trans T1
 clear T1
 have := splitOn_bound 32 (ls s); have := pieces_len 32 s; have := ls_length s
 refine J.run 9 K18_1 [(12, .bool (decide (((piecesB 32 s).length : Int) < 2))), (6, .slice (some ⟨b1, 0, none⟩) ((piecesB 32 s).length) ((piecesB 32 s).length)), (1, .string wd)] w1 (by kernel_rfl) ?_
 by_cases fk1 : ((piecesB 32 s).length : Int) < 2
 ·skip
  refine J.head (.bool true) (congrArg Value.bool (decide_eq_true fk1)) ?_
  refine J.run 18 K18_2 [(5, .bool false), (4, .slice none 0 0)] w1 (by kernel_rfl) ?_
  refine J.ret Tryz.f18 [.slice none 0 0, .bool false] Tryz.func18 ⟨by kernel_rfl, by kernel_rfl, trivial⟩ ?_
  refine hR _ _ ?_
  have e_ : lnOK wd (piecesB 32 s) = false := ln_few (by omega)
  have e2_ : nuV wd s = [] := by unfold nuV; rw [if_neg (by rw [e_]; decide)]
  exact ⟨none, 0, by rw [e_, e2_]; rfl, by rw [e2_]; exact S1.nil.nilRow 3 1⟩
 refine J.head (.bool false) (congrArg Value.bool (decide_eq_false fk1)) ?_
 refine J.run 1 K18_3 [(13, .slice (some ⟨b1, 0, none⟩) ((piecesB 32 s).length) ((piecesB 32 s).length)), (12, .bool false), (6, .slice (some ⟨b1, 0, none⟩) ((piecesB 32 s).length) ((piecesB 32 s).length)), (1, .string wd)] w1 (by kernel_rfl) ?_
 obtain ⟨p1, hp1, hc1⟩ := (box_ones (S1.nth 0 rfl) ((piecesB 32 s).length) rfl).at ByteArray.empty 0 (by omega)
 refine J.ok (OK.index 14 41 1 (some ⟨b1, 0, none⟩) p1 ((piecesB 32 s).length) 0 0 (p1.add 0) (by kernel_rfl) (by kernel_rfl) hp1 (by omega) (by omega) (by rw [Nat.mul_one])) ?_
 refine J.ok (OK.ldCell 15 9 (p1.add 0) (.string ((piecesB 32 s).getD 0 ByteArray.empty)) (by kernel_rfl) (by kernel_rfl) hc1) ?_
 refine J.run 4 K18_4 [(19, .bool (!(((piecesB 32 s).getD 0 ByteArray.empty).toList == wd.toList))), (6, .slice (some ⟨b1, 0, none⟩) ((piecesB 32 s).length) ((piecesB 32 s).length))] w1 (by kernel_rfl) ?_
 rcases Bool.eq_false_or_eq_true (!(((piecesB 32 s).getD 0 ByteArray.empty).toList == wd.toList)) with fk2 | fk2
 ·skip
  refine J.head (.bool true) (congrArg Value.bool fk2) ?_
  refine J.run 11 K18_5 [(5, .bool false), (4, .slice none 0 0)] w1 (by kernel_rfl) ?_
  refine J.ret Tryz.f18 [.slice none 0 0, .bool false] Tryz.func18 ⟨by kernel_rfl, by kernel_rfl, trivial⟩ ?_
  refine hR _ _ ?_
  have e_ : lnOK wd (piecesB 32 s) = false := ln_word (nb6 fk2)
  have e2_ : nuV wd s = [] := by unfold nuV; rw [if_neg (by rw [e_]; decide)]
  exact ⟨none, 0, by rw [e_, e2_]; rfl, by rw [e2_]; exact S1.nil.nilRow 3 1⟩
 refine J.head (.bool false) (congrArg Value.bool fk2) ?_
 refine J.run 1 K18_6 [(20, .slice (some ⟨b1, 0, none⟩) ((piecesB 32 s).length) ((piecesB 32 s).length)), (19, .bool false), (6, .slice (some ⟨b1, 0, none⟩) ((piecesB 32 s).length) ((piecesB 32 s).length))] w1 (by kernel_rfl) ?_
 refine J.ok (OK.slice 21 41 1 (some ⟨b1, 0, none⟩) ((piecesB 32 s).length) ((piecesB 32 s).length) (some (iv 1)) none 1 ((piecesB 32 s).length) (by kernel_rfl) (by kernel_rfl) (.inr ⟨_, _, rfl, rfl⟩) (.inl ⟨rfl, rfl⟩) (by first | omega | (simp; omega)) (by first | omega | (simp; omega))) ?_
 refine J.callF 22 32 #[.slice (subA (some ⟨b1, 0, none⟩) ((piecesB 32 s).length) 1 1) (((piecesB 32 s).length) - 1) (((piecesB 32 s).length) - 1), .func (.func 33) #[] #[]] hb32 (by kernel_rfl) (containsS0 (subA (some ⟨b1, 0, none⟩) ((piecesB 32 s).length) 1 1) (((piecesB 32 s).length) - 1) (((piecesB 32 s).length) - 1) ((piecesB 32 s).drop 1) 33  (fun p => !formL (ls p)) _ ((ones_drop (box_ones (S1.nth 0 rfl) ((piecesB 32 s).length) rfl) ((piecesB 32 s).length) 1 (by omega) (Nat.le_refl _))) (by first | omega | (simp; omega)) hb33 (fun i_ w_ hi_ S_ => notcanon_any _ w_ (Nat.le_trans (drop_size s i_) (by omega)))) ?_
 rintro _ w2 ⟨rfl, T2⟩
 have S2 : Sep w [box b1 ((piecesB 32 s).map Value.string) 9] w2 := S1.trans T2
 clear T2 S1
 refine J.run 2 K18_7 [(23, .bool (List.any ((piecesB 32 s).drop 1) (fun p => !formL (ls p)))), (6, .slice (some ⟨b1, 0, none⟩) ((piecesB 32 s).length) ((piecesB 32 s).length))] w2 (by kernel_rfl) ?_
 rcases Bool.eq_false_or_eq_true (List.any ((piecesB 32 s).drop 1) (fun p => !formL (ls p))) with fk3 | fk3
 ·skip
  refine J.head (.bool true) (congrArg Value.bool fk3) ?_
  refine J.run 6 K18_8 [(5, .bool false), (4, .slice none 0 0)] w2 (by kernel_rfl) ?_
  refine J.ret Tryz.f18 [.slice none 0 0, .bool false] Tryz.func18 ⟨by kernel_rfl, by kernel_rfl, trivial⟩ ?_
  refine hR _ _ ?_
  have e_ : lnOK wd (piecesB 32 s) = false := ln_form fk3
  have e2_ : nuV wd s = [] := by unfold nuV; rw [if_neg (by rw [e_]; decide)]
  exact ⟨none, 0, by rw [e_, e2_]; rfl, by rw [e2_]; exact S2.nil.nilRow 3 1⟩
 refine J.head (.bool false) (congrArg Value.bool fk3) ?_
 refine J.run 5 K18_9 [(24, .slice (some ⟨b1, 0, none⟩) ((piecesB 32 s).length) ((piecesB 32 s).length))] w2 (by kernel_rfl) ?_
 refine J.ok (OK.slice 25 41 1 (some ⟨b1, 0, none⟩) ((piecesB 32 s).length) ((piecesB 32 s).length) (some (iv 1)) none 1 ((piecesB 32 s).length) (by kernel_rfl) (by kernel_rfl) (.inr ⟨_, _, rfl, rfl⟩) (.inl ⟨rfl, rfl⟩) (by first | omega | (simp; omega)) (by first | omega | (simp; omega))) ?_
 refine J.callF 26 35 #[.slice (subA (some ⟨b1, 0, none⟩) ((piecesB 32 s).length) 1 1) (((piecesB 32 s).length) - 1) (((piecesB 32 s).length) - 1), .func (.func 36) #[] #[]] hb35 (by kernel_rfl) (mappedN (subA (some ⟨b1, 0, none⟩) ((piecesB 32 s).length) 1 1) (((piecesB 32 s).length) - 1) (((piecesB 32 s).length) - 1) ((piecesB 32 s).drop 1) 36 numP _ ((ones_drop (box_ones (S2.nth 0 rfl) ((piecesB 32 s).length) rfl) ((piecesB 32 s).length) 1 (by omega) (Nat.le_refl _))) (by omega) hb36 (fun i_ w_ hi_ S_ => numP_any _ w_ (Nat.le_trans (drop_size s i_) (by omega)) (tabW_sep (tabW_sep hW S2) S_))) ?_
 rintro _ w3 ⟨ra1, rc1, rfl, T3⟩
 have S3 : Sep w [rowOf Eng.encI ra1 rc1 3 1 (List.map numP ((piecesB 32 s).drop 1)), box b1 ((piecesB 32 s).map Value.string) 9] w3 := S2.trans T3
 refine J.run 3 K18_10 [(5, .bool true), (4, .slice ra1 ((List.map numP ((piecesB 32 s).drop 1)).length) rc1)] w3 (by kernel_rfl) ?_
 refine J.ret Tryz.f18 [.slice ra1 ((List.map numP ((piecesB 32 s).drop 1)).length) rc1, .bool true] Tryz.func18 ⟨by kernel_rfl, by kernel_rfl, trivial⟩ ?_
 refine hR _ _ ?_
 have e_ : lnOK wd (piecesB 32 s) = true := ln_ok (by omega) (nb6 fk2) fk3
 have e2_ : nuV wd s = List.map numP ((piecesB 32 s).drop 1) := by unfold nuV; rw [if_pos e_]; rfl
 exact ⟨_, _, by rw [e_, e2_]; rfl, by rw [e2_]; exact S3.pick 0 rfl⟩

theorem hb45 : HasBody Tryz.prog 45 := fun _ _ => by kernel_rfl
def K45_0 := adv 12 [] (bodyOf Tryz.f45)
def K45_1 := adv 6 [] K45_0
def K45_2 := adv 5 [] (popK K45_1)
def K45_3 := adv 12 [] K45_0
set_option maxRecDepth 20000 in
set_option maxHeartbeats 20000000 in
theorem hassfx_any (s : ByteArray) (w : World) (hs : s.size ≤ 9223372036854775807) : Ret Tryz.prog 45 #[.string s, .string ⟨#[10]⟩] w (fun v w' => v = .bool (sfxB s) ∧ Sep w [] w') := by
 have S0 := Sep.refl w
 refine Ret.named fun R hR => ?_
 refine Ret.of_J (N := 21) [(0, .string s), (1, .string ⟨#[10]⟩)] Tryz.func45 rfl rfl (Nat.le_of_ble_eq_true (by kernel_rfl)) (by kernel_rfl) ?_
 refine J.run 12 K45_0 [(10, .bool (decide ((s.size : Int) ≥ 1))), (0, .string s), (1, .string ⟨#[10]⟩)] w (by kernel_rfl) ?_
 by_cases fk1 : (s.size : Int) ≥ 1
 rotate_left
 ·skip
  refine J.head (.bool false) (congrArg Value.bool (decide_eq_false fk1)) ?_
  refine J.run 12 K45_3 [(4, .bool false)] w (by kernel_rfl) ?_
  refine J.ret Tryz.f45 [.bool false] Tryz.func45 ⟨by kernel_rfl, trivial⟩ ?_
  refine hR _ _ ?_
  exact ⟨congrArg Value.bool (sfx_none (by omega)).symm, S0.nil⟩
 refine J.head (.bool true) (congrArg Value.bool (decide_eq_true fk1)) ?_
 refine J.run 6 K45_1 [(16, iv (IntKind.wrap .i64 ((s.size : Int) - 1))), (11, .string s), (10, .bool true), (1, .string ⟨#[10]⟩)] w (by kernel_rfl) ?_
 refine J.head (iv ((s.size : Int) - 1)) (congrArg (Value.int .i64) (IntWalk.i64_in _ (by omega))) ?_
 refine J.ok (OK.sliceT 17 9 s (some (iv ((s.size : Int) - 1))) none (((s.size : Int) - 1).toNat) s.size (by kernel_rfl) (by kernel_rfl) (.inr ⟨_, _, rfl, by omega⟩) (.inl ⟨rfl, rfl⟩) (by first | omega | (simp; omega)) (by first | omega | (simp; omega))) ?_
 have := size_extract s (i := ((s.size : Int) - 1).toNat) (j := s.size) (by first | omega | (simp; omega))
 refine J.run 5 K45_2 [(4, .bool ((s.extract (((s.size : Int) - 1).toNat) s.size).toList == (⟨#[10]⟩ : ByteArray).toList))] w (by kernel_rfl) ?_
 refine J.ret Tryz.f45 [.bool ((s.extract (((s.size : Int) - 1).toNat) s.size).toList == (⟨#[10]⟩ : ByteArray).toList)] Tryz.func45 ⟨by kernel_rfl, trivial⟩ ?_
 refine hR _ _ ?_
 exact ⟨congrArg Value.bool (by rw [← sfx_ext (by omega), show ((s.size : Int) - 1).toNat = s.size - 1 by omega]), S0.nil⟩

theorem hb30 : HasBody Tryz.prog 30 := fun _ _ => by kernel_rfl
def K30_0 := adv 10 [] (bodyOf Tryz.f30)
def K30_1 := adv 2 [] (popK K30_0)
def K30_2 := adv 10 [false] K30_1
def K30_3 := adv 3 [] (popK K30_2)
def K30_4 := adv 7 [true] K30_1
set_option maxRecDepth 20000 in
set_option maxHeartbeats 20000000 in
theorem cutsfx0_any (s : ByteArray) (w : World) (hs : s.size ≤ 9223372036854775807) : Ret Tryz.prog 30 #[.string s, .string ⟨#[10]⟩] w (fun v w' => v = .tuple #[.string (bodyB s), .bool (sfxB s)] ∧ Sep w [] w') := by
 have S0 := Sep.refl w
 refine Ret.named fun R hR => ?_
 refine Ret.of_J (N := 18) [(0, .string s), (1, .string ⟨#[10]⟩)] Tryz.func30 rfl rfl (Nat.le_of_ble_eq_true (by kernel_rfl)) (by kernel_rfl) ?_
 refine J.run 10 K30_0 [(7, .string ⟨#[10]⟩), (6, .string s), (0, .string s), (1, .string ⟨#[10]⟩)] w (by kernel_rfl) ?_
 refine J.callF 8 45 #[.string s, .string ⟨#[10]⟩] hb45 (by kernel_rfl) (hassfx_any s _ (by omega)) ?_
 rintro _ w1 ⟨rfl, T1⟩
 have S1 : Sep w [] w1 := S0.trans T1
 clear T1
 refine J.run 2 K30_1 [(9, .bool (!(sfxB s))), (0, .string s), (1, .string ⟨#[10]⟩)] w1 (by kernel_rfl) ?_
 rcases Bool.eq_false_or_eq_true (sfxB s) with fk1 | fk1
 rotate_left
 ·skip
  refine J.head (.bool true) (congrArg Value.bool (by rw [fk1]; rfl)) ?_
  refine J.run 7 K30_4 [(5, .bool false), (4, .string s)] w1 (by kernel_rfl) ?_
  refine J.ret Tryz.f30 [.string s, .bool false] Tryz.func30 ⟨by kernel_rfl, by kernel_rfl, trivial⟩ ?_
  refine hR _ _ ?_
  exact ⟨by rw [fk1]; rw [← body_same fk1]; try rfl, S1.nil⟩
 refine J.head (.bool false) (congrArg Value.bool (by rw [fk1]; rfl)) ?_
 have hsz := sfx_some fk1
 refine J.run 10 K30_2 [(16, iv (IntKind.wrap .i64 ((s.size : Int) - 1))), (11, .string s)] w1 (by kernel_rfl) ?_
 refine J.head (iv ((s.size : Int) - 1)) (congrArg (Value.int .i64) (IntWalk.i64_in _ (by omega))) ?_
 refine J.ok (OK.sliceT 17 9 s none (some (iv ((s.size : Int) - 1))) 0 (((s.size : Int) - 1).toNat) (by kernel_rfl) (by kernel_rfl) (.inl ⟨rfl, rfl⟩) (.inr ⟨_, _, rfl, by omega⟩) (by first | omega | (simp; omega)) (by first | omega | (simp; omega))) ?_
 have := size_extract s (i := 0) (j := ((s.size : Int) - 1).toNat) (by first | omega | (simp; omega))
 refine J.run 3 K30_3 [(5, .bool true), (4, .string (s.extract 0 (((s.size : Int) - 1).toNat)))] w1 (by kernel_rfl) ?_
 refine J.ret Tryz.f30 [.string (s.extract 0 (((s.size : Int) - 1).toNat)), .bool true] Tryz.func30 ⟨by kernel_rfl, by kernel_rfl, trivial⟩ ?_
 refine hR _ _ ?_
 exact ⟨by rw [fk1]; rw [← body_cut fk1, show ((s.size : Int) - 1).toNat = s.size - 1 by omega]; try rfl, S1.nil⟩

theorem hb16 : HasBody Tryz.prog 16 := fun _ _ => by kernel_rfl
def K16_0 := adv 9 [] (bodyOf Tryz.f16)
def K16_1 := adv 5 [] (popK K16_0)
set_option maxRecDepth 20000 in
set_option maxHeartbeats 20000000 in
theorem cutsfx_any (s : ByteArray) (w : World) (hs : s.size ≤ 9223372036854775807) : Ret Tryz.prog 16 #[.string s, .string ⟨#[10]⟩] w (fun v w' => v = .tuple #[.string (bodyB s), .bool (sfxB s)] ∧ Sep w [] w') := by
 have S0 := Sep.refl w
 refine Ret.named fun R hR => ?_
 refine Ret.of_J (N := 11) [(0, .string s), (1, .string ⟨#[10]⟩)] Tryz.func16 rfl rfl (Nat.le_of_ble_eq_true (by kernel_rfl)) (by kernel_rfl) ?_
 refine J.run 9 K16_0 [(7, .string ⟨#[10]⟩), (6, .string s)] w (by kernel_rfl) ?_
 refine J.callF 8 30 #[.string s, .string ⟨#[10]⟩] hb30 (by kernel_rfl) (cutsfx0_any s _ (by omega)) ?_
 rintro _ w1 ⟨rfl, T1⟩
 have S1 : Sep w [] w1 := S0.trans T1
 clear T1
 refine J.run 5 K16_1 [(5, .bool (sfxB s)), (4, .string (bodyB s))] w1 (by kernel_rfl) ?_
 refine J.ret Tryz.f16 [.string (bodyB s), .bool (sfxB s)] Tryz.func16 ⟨by kernel_rfl, by kernel_rfl, trivial⟩ ?_
 refine hR _ _ ?_
 exact ⟨rfl, S1.nil⟩

end
end Go.Proofs.YtadgnficogeheaaGreatDoor

