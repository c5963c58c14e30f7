/- Walks of functions of this seat, printed by a program over the engine. Conditions: as each theorem says. -/
import Derived.Test.YthiklimfffhbaaaDoorZbS5
namespace Go.Proofs.YthiklimfffhbaaaDoor
noncomputable section
open Go.Eng Go.RowKit
set_option linter.unusedSimpArgs false
set_option linter.unusedVariables false
def longB (s : Sig) : Bool := decide ((s.gName.size : Int) > 60)
def bigB (f : Frm) : Bool := decide ((f.gName.size : Int) > 60) || decide ((f.gSignals_n : Int) > 20) || f.gSignals_l.any longB
def fewB (d : Db) : Bool := decide ((d.gFrames_n : Int) ≤ 70) && !d.gFrames_l.any bigB
theorem hb28 : HasBody Tryd.prog 28 := fun _ _ => by kernel_rfl
def K28_0 := adv 2 [] (bodyOf Tryd.f28)
def K28_1 := adv 5 [] (popK K28_0)
def K28_2 := adv 4 [] (popK K28_1)
set_option maxRecDepth 20000 in
set_option maxHeartbeats 20000000 in
theorem longsig_any (s : Sig) (w : World) : Ret Tryd.prog 28 #[.agg #[.string s.gName, .int .i64 s.gStart, .int .i64 s.gLength, .bool s.gMotorola, .bool s.gSigned, .int .i64 s.gNum, .int .i64 s.gOff, .int .i64 s.gDen, .int .i64 s.gLow, .int .i64 s.gHigh]] w (fun v w' => v = .bool (longB s) ∧ Sep w [] w') := by
 have S0 := Sep.refl w
 refine Ret.named fun R hR => ?_
 refine Ret.of_J (N := 7) [(0, .agg #[.string s.gName, .int .i64 s.gStart, .int .i64 s.gLength, .bool s.gMotorola, .bool s.gSigned, .int .i64 s.gNum, .int .i64 s.gOff, .int .i64 s.gDen, .int .i64 s.gLow, .int .i64 s.gHigh])] Tryd.func28 rfl rfl (Nat.le_of_ble_eq_true (by kernel_rfl)) (by kernel_rfl) ?_
 refine J.run 2 K28_0 [(0, .agg #[.string s.gName, .int .i64 s.gStart, .int .i64 s.gLength, .bool s.gMotorola, .bool s.gSigned, .int .i64 s.gNum, .int .i64 s.gOff, .int .i64 s.gDen, .int .i64 s.gLow, .int .i64 s.gHigh])] w (by kernel_rfl) ?_
 refine J.new S0 1 [.string s.gName, .int .i64 s.gStart, .int .i64 s.gLength, .bool s.gMotorola, .bool s.gSigned, .int .i64 s.gNum, .int .i64 s.gOff, .int .i64 s.gDen, .int .i64 s.gLow, .int .i64 s.gHigh] 57 (by kernel_rfl) ?_
 intro b1 w1 S1
 refine J.run 5 K28_1 [(3, .pointer (some ⟨b1, 0, none⟩))] w1 (by kernel_rfl) ?_
 refine J.ok (OK.ldBox S1 0 4 9 0 (.string s.gName) (by kernel_rfl) rfl (by kernel_rfl)) ?_
 refine J.run 4 K28_2 [(2, .bool (decide ((s.gName.size : Int) > 60)))] w1 (by kernel_rfl) ?_
 refine J.ret Tryd.f28 [.bool (decide ((s.gName.size : Int) > 60))] Tryd.func28 ⟨by kernel_rfl, trivial⟩ ?_
 refine hR _ _ ?_
 exact ⟨rfl, S1.nil⟩

def K55a_0 := adv 13 [] (bodyOf Tryd.f55)
def K55a_1 := adv 5 [] K55a_0
def K55a_2 := adv 14 [true] K55a_1
def K55a_3 := adv 1 [] (popK (popK (popK K55a_2)))
def K55a_4 := adv 6 [true] K55a_3
def K55a_5 := adv 5 [false] K55a_3
def K55a_6 := adv 6 [false] K55a_1
set_option maxRecDepth 20000 in
set_option maxHeartbeats 20000000 in
theorem indexSg0 (la : Option Addr) (len cap : Nat) (l : List Sig) (g : FuncId) (q : Sig → Bool) (w : World) (hI : Recs sigE 10 w la len l) (hlen : len ≤ 9223372036854775807) (hbg : HasBody Tryd.prog g) (hcall : ∀ (i : Nat) (w2 : World), i < l.length → Sep w [] w2 → Ret Tryd.prog g #[.agg #[.string ((l.getD i sig0).gName), .int .i64 ((l.getD i sig0).gStart), .int .i64 ((l.getD i sig0).gLength), .bool ((l.getD i sig0).gMotorola), .bool ((l.getD i sig0).gSigned), .int .i64 ((l.getD i sig0).gNum), .int .i64 ((l.getD i sig0).gOff), .int .i64 ((l.getD i sig0).gDen), .int .i64 ((l.getD i sig0).gLow), .int .i64 ((l.getD i sig0).gHigh)]] w2 (fun v w3 => v = .bool (q (l.getD i sig0)) ∧ Sep w2 [] w3)) : Ret Tryd.prog 55 #[.slice la len cap, .func (.func g) #[] #[]] w (fun v w' => v = .int .i64 (indexF q l) ∧ Sep w [] w') := by
 have S0 := Sep.refl w
 refine Ret.named fun R hR => ?_
 refine Ret.of_J (N := 19) [(0, .slice la len cap), (1, .func (.func g) #[] #[])] Tryd.func55 rfl rfl (Nat.le_of_ble_eq_true (by kernel_rfl)) (by kernel_rfl) ?_
 refine J.run 13 K55a_0 [(8, .int .i64 0), (7, .int .i64 (len : Int)), (0, .slice la len cap), (1, .func (.func g) #[] #[])] w (by kernel_rfl) ?_
 have L55_1 : ∀ (mm_ : Nat) (i : Int) (w1 : World), (0 ≤ i) → (i ≤ (len : Int)) → (∀ j, j < (i).toNat → q (l.getD j sig0) = false) → Sep w [] w1 → ((len : Int) - i).toNat = mm_ → J Tryd.prog 55 19 R K55a_0 [(8, .int .i64 i), (7, .int .i64 (len : Int)), (0, .slice la len cap), (1, .func (.func g) #[] #[])] w1 := by
  intro mm1
  induction mm1 using Nat.strongRecOn with
  | _ mm1 ih1 =>
  intro i w1 h0 h1 hq S1 hm1
  refine J.run 5 K55a_1 [(9, .bool (decide (i < (len : Int)))), (8, .int .i64 i), (7, .int .i64 (len : Int)), (0, .slice la len cap), (1, .func (.func g) #[] #[])] w1 (by kernel_rfl) ?_
  by_cases fk1 : i < (len : Int)
  rotate_left
  ·skip
   refine J.head (.bool false) (congrArg Value.bool (decide_eq_false fk1)) ?_
   refine J.run 6 K55a_6 [(4, .int .i64 (-1))] w1 (by kernel_rfl) ?_
   refine J.ret Tryd.f55 [.int .i64 (-1)] Tryd.func55 ⟨by kernel_rfl, trivial⟩ ?_
   refine hR _ _ ?_
   exact ⟨by rw [tup_one, indexF_none sig0 fun j hj => hq j (by have := hI.len_eq; omega)], S1.nil⟩
  refine J.head (.bool true) (congrArg Value.bool (decide_eq_true fk1)) ?_
  refine J.run 14 K55a_2 [(13, .int .i64 i), (12, .slice la len cap), (11, .func (.func g) #[] #[]), (5, .int .i64 i), (8, .int .i64 i), (7, .int .i64 (len : Int)), (0, .slice la len cap), (1, .func (.func g) #[] #[])] w1 (by kernel_rfl) ?_
  obtain ⟨p1, hp1, hc1⟩ := hI.at sig0 (i).toNat (by omega)
  refine J.ok (OK.index 14 32 10 la p1 len (i).toNat i (p1.add ((i).toNat * 10)) (by kernel_rfl) (by kernel_rfl) hp1 (by omega) (by omega) rfl) ?_
  refine J.ok (OK.ldCells 15 57 (p1.add ((i).toNat * 10)) [.string ((l.getD (i).toNat sig0).gName), .int .i64 ((l.getD (i).toNat sig0).gStart), .int .i64 ((l.getD (i).toNat sig0).gLength), .bool ((l.getD (i).toNat sig0).gMotorola), .bool ((l.getD (i).toNat sig0).gSigned), .int .i64 ((l.getD (i).toNat sig0).gNum), .int .i64 ((l.getD (i).toNat sig0).gOff), .int .i64 ((l.getD (i).toNat sig0).gDen), .int .i64 ((l.getD (i).toNat sig0).gLow), .int .i64 ((l.getD (i).toNat sig0).gHigh)] (by kernel_rfl) (by kernel_rfl) (by kernel_rfl) (fun j_ v_ hj_ => S1.cell (hc1 j_ v_ hj_))) ?_
  refine J.callF 16 g #[.agg #[.string ((l.getD (i).toNat sig0).gName), .int .i64 ((l.getD (i).toNat sig0).gStart), .int .i64 ((l.getD (i).toNat sig0).gLength), .bool ((l.getD (i).toNat sig0).gMotorola), .bool ((l.getD (i).toNat sig0).gSigned), .int .i64 ((l.getD (i).toNat sig0).gNum), .int .i64 ((l.getD (i).toNat sig0).gOff), .int .i64 ((l.getD (i).toNat sig0).gDen), .int .i64 ((l.getD (i).toNat sig0).gLow), .int .i64 ((l.getD (i).toNat sig0).gHigh)]] hbg (by kernel_rfl) (hcall (i).toNat w1 (by have := hI.len_eq; omega) S1.nil) ?_
  rintro _ w2 ⟨rfl, T1⟩
  have S2 : Sep w [] w2 := S1.trans T1
  clear T1 S1
  refine J.run 1 K55a_3 [(16, .bool (q (l.getD (i).toNat sig0))), (5, .int .i64 i), (8, .int .i64 i), (7, .int .i64 (len : Int)), (0, .slice la len cap), (1, .func (.func g) #[] #[])] w2 (by kernel_rfl) ?_
  rcases Bool.eq_false_or_eq_true (q (l.getD (i).toNat sig0)) with fk2 | fk2
  ·skip
   refine J.head (.bool true) (congrArg Value.bool fk2) ?_
   refine J.run 6 K55a_4 [(4, .int .i64 i)] w2 (by kernel_rfl) ?_
   refine J.ret Tryd.f55 [.int .i64 i] Tryd.func55 ⟨by kernel_rfl, trivial⟩ ?_
   refine hR _ _ ?_
   exact ⟨by rw [tup_one, indexF_some sig0 i.toNat (by have := hI.len_eq; omega) hq fk2, Int.toNat_of_nonneg h0], S2.nil⟩
  refine J.head (.bool false) (congrArg Value.bool fk2) ?_
  refine J.run 5 K55a_5 [(18, .int .i64 (IntKind.wrap .i64 (i + 1))), (7, .int .i64 (len : Int)), (0, .slice la len cap), (1, .func (.func g) #[] #[])] w2 (by kernel_rfl) ?_
  refine J.head (.int .i64 (i + 1)) (congrArg (Value.int .i64) (IntWalk.i64_in _ (by omega))) ?_
  refine J.run 3 K55a_0 [(8, .int .i64 (i + 1)), (7, .int .i64 (len : Int)), (0, .slice la len cap), (1, .func (.func g) #[] #[])] w2 (by kernel_rfl) ?_
  refine J.run 0 K55a_0 [(8, .int .i64 (i + 1)), (7, .int .i64 (len : Int)), (0, .slice la len cap), (1, .func (.func g) #[] #[])] w2 (by kernel_rfl) ?_
  exact ih1 _ (show ((len : Int) - (i + 1)).toNat < mm1 from by omega) (i + 1) w2 (by omega) (by omega) (by intro j hj; by_cases e : j = i.toNat; (subst e; exact fk2); exact hq j (by omega)) S2 rfl
 exact L55_1 _ 0 w (by omega) (by omega) (by intro j hj; simp at hj) S0 rfl

def K27a_0 := adv 8 [] (bodyOf Tryd.f27)
def K27a_1 := adv 3 [] (popK K27a_0)
set_option maxRecDepth 20000 in
set_option maxHeartbeats 20000000 in
theorem containsSg0 (la : Option Addr) (len cap : Nat) (l : List Sig) (g : FuncId) (q : Sig → Bool) (w : World) (hI : Recs sigE 10 w la len l) (hlen : len ≤ 9223372036854775807) (hbg : HasBody Tryd.prog g) (hcall : ∀ (i : Nat) (w2 : World), i < l.length → Sep w [] w2 → Ret Tryd.prog g #[.agg #[.string ((l.getD i sig0).gName), .int .i64 ((l.getD i sig0).gStart), .int .i64 ((l.getD i sig0).gLength), .bool ((l.getD i sig0).gMotorola), .bool ((l.getD i sig0).gSigned), .int .i64 ((l.getD i sig0).gNum), .int .i64 ((l.getD i sig0).gOff), .int .i64 ((l.getD i sig0).gDen), .int .i64 ((l.getD i sig0).gLow), .int .i64 ((l.getD i sig0).gHigh)]] w2 (fun v w3 => v = .bool (q (l.getD i sig0)) ∧ Sep w2 [] w3)) : Ret Tryd.prog 27 #[.slice la len cap, .func (.func g) #[] #[]] w (fun v w' => v = .bool (l.any q) ∧ Sep w [] w') := by
 have S0 := Sep.refl w
 refine Ret.named fun R hR => ?_
 refine Ret.of_J (N := 9) [(0, .slice la len cap), (1, .func (.func g) #[] #[])] Tryd.func27 rfl rfl (Nat.le_of_ble_eq_true (by kernel_rfl)) (by kernel_rfl) ?_
 refine J.run 8 K27a_0 [(6, .func (.func g) #[] #[]), (5, .slice la len cap)] w (by kernel_rfl) ?_
 refine J.callF 7 55 #[.slice la len cap, .func (.func g) #[] #[]] hb55 (by kernel_rfl) (indexSg0 la len cap l g  q _ (hI.sep S0) (by first | omega | (simp; omega)) hbg (hcall)) ?_
 rintro _ w1 ⟨rfl, T1⟩
 have S1 : Sep w [] w1 := S0.trans T1
 clear T1
 refine J.run 3 K27a_1 [(4, .bool (decide ((indexF q l) ≥ 0)))] w1 (by kernel_rfl) ?_
 refine J.ret Tryd.f27 [.bool (decide ((indexF q l) ≥ 0))] Tryd.func27 ⟨by kernel_rfl, trivial⟩ ?_
 refine hR _ _ ?_
 exact ⟨congrArg Value.bool (by first | exact indexF_nonneg), S1.nil⟩

theorem hb26 : HasBody Tryd.prog 26 := fun _ _ => by kernel_rfl
def K26_0 := adv 2 [] (bodyOf Tryd.f26)
def K26_1 := adv 5 [] (popK K26_0)
def K26_2 := adv 3 [] (popK K26_1)
def K26_3 := adv 12 [] K26_2
def K26_4 := adv 1 [] K26_2
def K26_5 := adv 4 [] (popK K26_4)
def K26_6 := adv 6 [] K26_5
def K26_7 := adv 1 [] K26_5
def K26_8 := adv 3 [] (popK (popK K26_7))
set_option maxRecDepth 20000 in
set_option maxHeartbeats 20000000 in
theorem big_any (f : Frm) (w : World) (hf : frmQ w f) : Ret Tryd.prog 26 #[.agg #[.string f.gName, .int .i64 f.gID, .int .i64 f.gLength, .bool f.gGuarded, .slice f.gSignals_a f.gSignals_n f.gSignals_c]] w (fun v w' => v = .bool (bigB f) ∧ Sep w [] w') := by
 have S0 := Sep.refl w
 refine Ret.named fun R hR => ?_
 refine Ret.of_J (N := 18) [(0, .agg #[.string f.gName, .int .i64 f.gID, .int .i64 f.gLength, .bool f.gGuarded, .slice f.gSignals_a f.gSignals_n f.gSignals_c])] Tryd.func26 rfl rfl (Nat.le_of_ble_eq_true (by kernel_rfl)) (by kernel_rfl) ?_
 obtain ⟨q1, q2, q3, q4, q5, q6, _⟩ := id hf
 have ql1 := q5.len_eq
 refine J.run 2 K26_0 [(0, .agg #[.string f.gName, .int .i64 f.gID, .int .i64 f.gLength, .bool f.gGuarded, .slice f.gSignals_a f.gSignals_n f.gSignals_c])] w (by kernel_rfl) ?_
 refine J.new S0 1 [.string f.gName, .int .i64 f.gID, .int .i64 f.gLength, .bool f.gGuarded, .slice f.gSignals_a f.gSignals_n f.gSignals_c] 34 (by kernel_rfl) ?_
 intro b1 w1 S1
 refine J.run 5 K26_1 [(3, .pointer (some ⟨b1, 0, none⟩)), (1, .pointer (some ⟨b1, 0, none⟩))] w1 (by kernel_rfl) ?_
 refine J.ok (OK.ldBox S1 0 4 9 0 (.string f.gName) (by kernel_rfl) rfl (by kernel_rfl)) ?_
 refine J.run 3 K26_2 [(7, .bool (decide ((f.gName.size : Int) > 60))), (1, .pointer (some ⟨b1, 0, none⟩))] w1 (by kernel_rfl) ?_
 by_cases fk1 : (f.gName.size : Int) > 60
 ·skip
  refine J.head (.bool true) (congrArg Value.bool (decide_eq_true fk1)) ?_
  refine J.run 12 K26_3 [(2, .bool true)] w1 (by kernel_rfl) ?_
  refine J.ret Tryd.f26 [.bool true] Tryd.func26 ⟨by kernel_rfl, trivial⟩ ?_
  refine hR _ _ ?_
  exact ⟨congrArg Value.bool (by unfold bigB; first | (simp [fk1]; done) | (simp [fk1]; omega)), S1.nil⟩
 refine J.head (.bool false) (congrArg Value.bool (decide_eq_false fk1)) ?_
 refine J.run 1 K26_4 [(8, .pointer (some ⟨b1, 4, none⟩)), (7, .bool false), (1, .pointer (some ⟨b1, 0, none⟩))] w1 (by kernel_rfl) ?_
 refine J.ok (OK.ldBox S1 0 9 32 4 (.slice f.gSignals_a f.gSignals_n f.gSignals_c) (by kernel_rfl) rfl (by kernel_rfl)) ?_
 refine J.run 4 K26_5 [(13, .bool (decide ((f.gSignals_n : Int) > 20))), (1, .pointer (some ⟨b1, 0, none⟩))] w1 (by kernel_rfl) ?_
 by_cases fk2 : (f.gSignals_n : Int) > 20
 ·skip
  refine J.head (.bool true) (congrArg Value.bool (decide_eq_true fk2)) ?_
  refine J.run 6 K26_6 [(2, .bool true)] w1 (by kernel_rfl) ?_
  refine J.ret Tryd.f26 [.bool true] Tryd.func26 ⟨by kernel_rfl, trivial⟩ ?_
  refine hR _ _ ?_
  exact ⟨congrArg Value.bool (by unfold bigB; first | (simp [fk1, fk2]; done) | (simp [fk1, fk2]; omega)), S1.nil⟩
 refine J.head (.bool false) (congrArg Value.bool (decide_eq_false fk2)) ?_
 refine J.run 1 K26_7 [(14, .pointer (some ⟨b1, 4, none⟩)), (13, .bool false)] w1 (by kernel_rfl) ?_
 refine J.ok (OK.ldBox S1 0 15 32 4 (.slice f.gSignals_a f.gSignals_n f.gSignals_c) (by kernel_rfl) rfl (by kernel_rfl)) ?_
 refine J.callF 16 27 #[.slice f.gSignals_a f.gSignals_n f.gSignals_c, .func (.func 28) #[] #[]] hb27 (by kernel_rfl) (containsSg0 f.gSignals_a f.gSignals_n f.gSignals_c f.gSignals_l 28  longB _ (q5.sep S1) (by first | omega | (simp; omega)) hb28 (fun i_ w_ hi_ S_ => longsig_any _ w_)) ?_
 rintro _ w2 ⟨rfl, T1⟩
 have S2 : Sep w [box b1 [.string f.gName, .int .i64 f.gID, .int .i64 f.gLength, .bool f.gGuarded, .slice f.gSignals_a f.gSignals_n f.gSignals_c] 34] w2 := S1.trans T1
 clear T1 S1
 refine J.run 3 K26_8 [(2, .bool (List.any f.gSignals_l longB))] w2 (by kernel_rfl) ?_
 refine J.ret Tryd.f26 [.bool (List.any f.gSignals_l longB)] Tryd.func26 ⟨by kernel_rfl, trivial⟩ ?_
 refine hR _ _ ?_
 exact ⟨congrArg Value.bool (by unfold bigB; first | (simp [fk1, fk2]; done) | (simp [fk1, fk2]; omega)), S2.nil⟩

def K54a_0 := adv 13 [] (bodyOf Tryd.f54)
def K54a_1 := adv 5 [] K54a_0
def K54a_2 := adv 14 [true] K54a_1
def K54a_3 := adv 1 [] (popK (popK (popK K54a_2)))
def K54a_4 := adv 6 [true] K54a_3
def K54a_5 := adv 5 [false] K54a_3
def K54a_6 := adv 6 [false] K54a_1
set_option maxRecDepth 20000 in
set_option maxHeartbeats 20000000 in
theorem indexFr0 (la : Option Addr) (len cap : Nat) (l : List Frm) (g : FuncId) (q : Frm → Bool) (w : World) (hI : Recs frmE 5 w la len l) (hlen : len ≤ 9223372036854775807) (hbg : HasBody Tryd.prog g) (hcall : ∀ (i : Nat) (w2 : World), i < l.length → Sep w [] w2 → Ret Tryd.prog g #[.agg #[.string ((l.getD i frm0).gName), .int .i64 ((l.getD i frm0).gID), .int .i64 ((l.getD i frm0).gLength), .bool ((l.getD i frm0).gGuarded), .slice ((l.getD i frm0).gSignals_a) ((l.getD i frm0).gSignals_n) ((l.getD i frm0).gSignals_c)]] w2 (fun v w3 => v = .bool (q (l.getD i frm0)) ∧ Sep w2 [] w3)) : Ret Tryd.prog 54 #[.slice la len cap, .func (.func g) #[] #[]] w (fun v w' => v = .int .i64 (indexF q l) ∧ Sep w [] w') := by
 have S0 := Sep.refl w
 refine Ret.named fun R hR => ?_
 refine Ret.of_J (N := 19) [(0, .slice la len cap), (1, .func (.func g) #[] #[])] Tryd.func54 rfl rfl (Nat.le_of_ble_eq_true (by kernel_rfl)) (by kernel_rfl) ?_
 refine J.run 13 K54a_0 [(8, .int .i64 0), (7, .int .i64 (len : Int)), (0, .slice la len cap), (1, .func (.func g) #[] #[])] w (by kernel_rfl) ?_
 have L54_1 : ∀ (mm_ : Nat) (i : Int) (w1 : World), (0 ≤ i) → (i ≤ (len : Int)) → (∀ j, j < (i).toNat → q (l.getD j frm0) = false) → Sep w [] w1 → ((len : Int) - i).toNat = mm_ → J Tryd.prog 54 19 R K54a_0 [(8, .int .i64 i), (7, .int .i64 (len : Int)), (0, .slice la len cap), (1, .func (.func g) #[] #[])] w1 := by
  intro mm1
  induction mm1 using Nat.strongRecOn with
  | _ mm1 ih1 =>
  intro i w1 h0 h1 hq S1 hm1
  refine J.run 5 K54a_1 [(9, .bool (decide (i < (len : Int)))), (8, .int .i64 i), (7, .int .i64 (len : Int)), (0, .slice la len cap), (1, .func (.func g) #[] #[])] w1 (by kernel_rfl) ?_
  by_cases fk1 : i < (len : Int)
  rotate_left
  ·skip
   refine J.head (.bool false) (congrArg Value.bool (decide_eq_false fk1)) ?_
   refine J.run 6 K54a_6 [(4, .int .i64 (-1))] w1 (by kernel_rfl) ?_
   refine J.ret Tryd.f54 [.int .i64 (-1)] Tryd.func54 ⟨by kernel_rfl, trivial⟩ ?_
   refine hR _ _ ?_
   exact ⟨by rw [tup_one, indexF_none frm0 fun j hj => hq j (by have := hI.len_eq; omega)], S1.nil⟩
  refine J.head (.bool true) (congrArg Value.bool (decide_eq_true fk1)) ?_
  refine J.run 14 K54a_2 [(13, .int .i64 i), (12, .slice la len cap), (11, .func (.func g) #[] #[]), (5, .int .i64 i), (8, .int .i64 i), (7, .int .i64 (len : Int)), (0, .slice la len cap), (1, .func (.func g) #[] #[])] w1 (by kernel_rfl) ?_
  obtain ⟨p1, hp1, hc1⟩ := hI.at frm0 (i).toNat (by omega)
  refine J.ok (OK.index 14 22 5 la p1 len (i).toNat i (p1.add ((i).toNat * 5)) (by kernel_rfl) (by kernel_rfl) hp1 (by omega) (by omega) rfl) ?_
  refine J.ok (OK.ldCells 15 34 (p1.add ((i).toNat * 5)) [.string ((l.getD (i).toNat frm0).gName), .int .i64 ((l.getD (i).toNat frm0).gID), .int .i64 ((l.getD (i).toNat frm0).gLength), .bool ((l.getD (i).toNat frm0).gGuarded), .slice ((l.getD (i).toNat frm0).gSignals_a) ((l.getD (i).toNat frm0).gSignals_n) ((l.getD (i).toNat frm0).gSignals_c)] (by kernel_rfl) (by kernel_rfl) (by kernel_rfl) (fun j_ v_ hj_ => S1.cell (hc1 j_ v_ hj_))) ?_
  refine J.callF 16 g #[.agg #[.string ((l.getD (i).toNat frm0).gName), .int .i64 ((l.getD (i).toNat frm0).gID), .int .i64 ((l.getD (i).toNat frm0).gLength), .bool ((l.getD (i).toNat frm0).gGuarded), .slice ((l.getD (i).toNat frm0).gSignals_a) ((l.getD (i).toNat frm0).gSignals_n) ((l.getD (i).toNat frm0).gSignals_c)]] hbg (by kernel_rfl) (hcall (i).toNat w1 (by have := hI.len_eq; omega) S1.nil) ?_
  rintro _ w2 ⟨rfl, T1⟩
  have S2 : Sep w [] w2 := S1.trans T1
  clear T1 S1
  refine J.run 1 K54a_3 [(16, .bool (q (l.getD (i).toNat frm0))), (5, .int .i64 i), (8, .int .i64 i), (7, .int .i64 (len : Int)), (0, .slice la len cap), (1, .func (.func g) #[] #[])] w2 (by kernel_rfl) ?_
  rcases Bool.eq_false_or_eq_true (q (l.getD (i).toNat frm0)) with fk2 | fk2
  ·skip
   refine J.head (.bool true) (congrArg Value.bool fk2) ?_
   refine J.run 6 K54a_4 [(4, .int .i64 i)] w2 (by kernel_rfl) ?_
   refine J.ret Tryd.f54 [.int .i64 i] Tryd.func54 ⟨by kernel_rfl, trivial⟩ ?_
   refine hR _ _ ?_
   exact ⟨by rw [tup_one, indexF_some frm0 i.toNat (by have := hI.len_eq; omega) hq fk2, Int.toNat_of_nonneg h0], S2.nil⟩
  refine J.head (.bool false) (congrArg Value.bool fk2) ?_
  refine J.run 5 K54a_5 [(18, .int .i64 (IntKind.wrap .i64 (i + 1))), (7, .int .i64 (len : Int)), (0, .slice la len cap), (1, .func (.func g) #[] #[])] w2 (by kernel_rfl) ?_
  refine J.head (.int .i64 (i + 1)) (congrArg (Value.int .i64) (IntWalk.i64_in _ (by omega))) ?_
  refine J.run 3 K54a_0 [(8, .int .i64 (i + 1)), (7, .int .i64 (len : Int)), (0, .slice la len cap), (1, .func (.func g) #[] #[])] w2 (by kernel_rfl) ?_
  refine J.run 0 K54a_0 [(8, .int .i64 (i + 1)), (7, .int .i64 (len : Int)), (0, .slice la len cap), (1, .func (.func g) #[] #[])] w2 (by kernel_rfl) ?_
  exact ih1 _ (show ((len : Int) - (i + 1)).toNat < mm1 from by omega) (i + 1) w2 (by omega) (by omega) (by intro j hj; by_cases e : j = i.toNat; (subst e; exact fk2); exact hq j (by omega)) S2 rfl
 exact L54_1 _ 0 w (by omega) (by omega) (by intro j hj; simp at hj) S0 rfl

def K25a_0 := adv 8 [] (bodyOf Tryd.f25)
def K25a_1 := adv 3 [] (popK K25a_0)
set_option maxRecDepth 20000 in
set_option maxHeartbeats 20000000 in
theorem containsFr0 (la : Option Addr) (len cap : Nat) (l : List Frm) (g : FuncId) (q : Frm → Bool) (w : World) (hI : Recs frmE 5 w la len l) (hlen : len ≤ 9223372036854775807) (hbg : HasBody Tryd.prog g) (hcall : ∀ (i : Nat) (w2 : World), i < l.length → Sep w [] w2 → Ret Tryd.prog g #[.agg #[.string ((l.getD i frm0).gName), .int .i64 ((l.getD i frm0).gID), .int .i64 ((l.getD i frm0).gLength), .bool ((l.getD i frm0).gGuarded), .slice ((l.getD i frm0).gSignals_a) ((l.getD i frm0).gSignals_n) ((l.getD i frm0).gSignals_c)]] w2 (fun v w3 => v = .bool (q (l.getD i frm0)) ∧ Sep w2 [] w3)) : Ret Tryd.prog 25 #[.slice la len cap, .func (.func g) #[] #[]] w (fun v w' => v = .bool (l.any q) ∧ Sep w [] w') := by
 have S0 := Sep.refl w
 refine Ret.named fun R hR => ?_
 refine Ret.of_J (N := 9) [(0, .slice la len cap), (1, .func (.func g) #[] #[])] Tryd.func25 rfl rfl (Nat.le_of_ble_eq_true (by kernel_rfl)) (by kernel_rfl) ?_
 refine J.run 8 K25a_0 [(6, .func (.func g) #[] #[]), (5, .slice la len cap)] w (by kernel_rfl) ?_
 refine J.callF 7 54 #[.slice la len cap, .func (.func g) #[] #[]] hb54 (by kernel_rfl) (indexFr0 la len cap l g  q _ (hI.sep S0) (by first | omega | (simp; omega)) hbg (hcall)) ?_
 rintro _ w1 ⟨rfl, T1⟩
 have S1 : Sep w [] w1 := S0.trans T1
 clear T1
 refine J.run 3 K25a_1 [(4, .bool (decide ((indexF q l) ≥ 0)))] w1 (by kernel_rfl) ?_
 refine J.ret Tryd.f25 [.bool (decide ((indexF q l) ≥ 0))] Tryd.func25 ⟨by kernel_rfl, trivial⟩ ?_
 refine hR _ _ ?_
 exact ⟨congrArg Value.bool (by first | exact indexF_nonneg), S1.nil⟩

theorem hb8 : HasBody Tryd.prog 8 := fun _ _ => by kernel_rfl
def K8_0 := adv 2 [] (bodyOf Tryd.f8)
def K8_1 := adv 5 [] (popK K8_0)
def K8_2 := adv 3 [] (popK K8_1)
def K8_3 := adv 1 [] K8_2
def K8_4 := adv 4 [] (popK (popK K8_3))
def K8_5 := adv 7 [] K8_2
set_option maxRecDepth 20000 in
set_option maxHeartbeats 20000000 in
theorem few_any (d : Db) (w : World) (hd : dbQ w d) : Ret Tryd.prog 8 #[.agg #[.slice d.gFrames_a d.gFrames_n d.gFrames_c]] w (fun v w' => v = .bool (fewB d) ∧ Sep w [] w') := by
 have S0 := Sep.refl w
 refine Ret.named fun R hR => ?_
 refine Ret.of_J (N := 13) [(0, .agg #[.slice d.gFrames_a d.gFrames_n d.gFrames_c])] Tryd.func8 rfl rfl (Nat.le_of_ble_eq_true (by kernel_rfl)) (by kernel_rfl) ?_
 obtain ⟨q1, q2, q3, _⟩ := id hd
 have ql1 := q2.len_eq
 refine J.run 2 K8_0 [(0, .agg #[.slice d.gFrames_a d.gFrames_n d.gFrames_c])] w (by kernel_rfl) ?_
 refine J.new S0 1 [.slice d.gFrames_a d.gFrames_n d.gFrames_c] 24 (by kernel_rfl) ?_
 intro b1 w1 S1
 refine J.run 5 K8_1 [(3, .pointer (some ⟨b1, 0, none⟩)), (1, .pointer (some ⟨b1, 0, none⟩))] w1 (by kernel_rfl) ?_
 refine J.ok (OK.ldBox S1 0 4 22 0 (.slice d.gFrames_a d.gFrames_n d.gFrames_c) (by kernel_rfl) rfl (by kernel_rfl)) ?_
 refine J.run 3 K8_2 [(7, .bool (decide ((d.gFrames_n : Int) ≤ 70))), (1, .pointer (some ⟨b1, 0, none⟩))] w1 (by kernel_rfl) ?_
 by_cases fk1 : (d.gFrames_n : Int) ≤ 70
 rotate_left
 ·skip
  refine J.head (.bool false) (congrArg Value.bool (decide_eq_false fk1)) ?_
  refine J.run 7 K8_5 [(2, .bool false)] w1 (by kernel_rfl) ?_
  refine J.ret Tryd.f8 [.bool false] Tryd.func8 ⟨by kernel_rfl, trivial⟩ ?_
  refine hR _ _ ?_
  exact ⟨congrArg Value.bool (by unfold fewB; first | (simp [fk1]; done) | (simp [fk1]; omega)), S1.nil⟩
 refine J.head (.bool true) (congrArg Value.bool (decide_eq_true fk1)) ?_
 refine J.run 1 K8_3 [(8, .pointer (some ⟨b1, 0, none⟩)), (7, .bool true)] w1 (by kernel_rfl) ?_
 refine J.ok (OK.ldBox S1 0 9 22 0 (.slice d.gFrames_a d.gFrames_n d.gFrames_c) (by kernel_rfl) rfl (by kernel_rfl)) ?_
 refine J.callF 10 25 #[.slice d.gFrames_a d.gFrames_n d.gFrames_c, .func (.func 26) #[] #[]] hb25 (by kernel_rfl) (containsFr0 d.gFrames_a d.gFrames_n d.gFrames_c d.gFrames_l 26  bigB _ (q2.sep S1) (by first | omega | (simp; omega)) hb26 (fun i_ w_ hi_ S_ => big_any _ w_ (frmQ_sep (frmQ_sep (getD_Q q3 frm0 hi_) S1) S_))) ?_
 rintro _ w2 ⟨rfl, T1⟩
 have S2 : Sep w [box b1 [.slice d.gFrames_a d.gFrames_n d.gFrames_c] 24] w2 := S1.trans T1
 clear T1 S1
 refine J.run 4 K8_4 [(2, .bool (!(List.any d.gFrames_l bigB)))] w2 (by kernel_rfl) ?_
 refine J.ret Tryd.f8 [.bool (!(List.any d.gFrames_l bigB))] Tryd.func8 ⟨by kernel_rfl, trivial⟩ ?_
 refine hR _ _ ?_
 exact ⟨congrArg Value.bool (by unfold fewB; first | (simp [fk1]; done) | (simp [fk1]; omega)), S2.nil⟩

end
end Go.Proofs.YthiklimfffhbaaaDoor

