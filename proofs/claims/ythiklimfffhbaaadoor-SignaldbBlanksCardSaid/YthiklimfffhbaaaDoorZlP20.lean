/- Walks of functions of this seat, printed by a program over the engine. Conditions: as each theorem says. -/
import Derived.Test.YthiklimfffhbaaaDoorZlP17
import Derived.Test.YthiklimfffhbaaaDoorZlP14
namespace Go.Proofs.YthiklimfffhbaaaDoor
noncomputable section
open Go.Eng Go.RowKit
set_option linter.unusedSimpArgs false
set_option linter.unusedVariables false
theorem frm0_Q (w : World) : frmQ w frm0 := ⟨by decide, by decide, by decide, ⟨by decide, by decide⟩, ⟨rfl, fun _ => rfl, by decide, (fun j v hj => by cases hj)⟩, (fun y hy => by cases hy), trivial⟩
theorem q_at {w : World} {l : List Frm} (h : ∀ y ∈ l, frmQ w y) (k : Nat) : frmQ w (l.getD k frm0) := by
  rw [List.getD_eq_getElem?_getD]
  cases hx : l[k]? with
  | none => exact frm0_Q w
  | some x => exact h x (List.mem_of_getElem? hx)
theorem cl_at {la lb : List Frm} (h : la.map clF = lb.map clF) (k : Nat) : clF (la.getD k frm0) = clF (lb.getD k frm0) := by rw [← getD_cl, ← getD_cl, h]
theorem cl_len {la lb : List Frm} (h : la.map clF = lb.map clF) : la.length = lb.length := by have := congrArg List.length h; simpa using this
/-! the signals of several parsed databases behind one another -/
theorem tl_qm {w0 w : World} {L : List Eng.Claim} {out : List Frm} (S : Sep w0 L w) (hs : ∀ c ∈ tlF out, c ∈ L) (h : ∀ x ∈ out, okF x) : ∀ x ∈ out, frmQ w x := by
  intro x hx
  obtain ⟨h1, h2, h3, h4, h5⟩ := h x hx
  have hc := S.all (rowOf sigE x.gSignals_a x.gSignals_c 57 10 x.gSignals_l) (hs _ (List.mem_map.2 ⟨_, List.mem_reverse.2 hx, rfl⟩))
  exact ⟨h2, h3, h4, ⟨by rw [h1]; exact (rowOf_cells hc).2.2, rowOf_cap hc⟩, rowOf_recs hc _ h1.symm (fun _ => rfl) (by decide), fun y hy => h5 y hy w, trivial⟩
theorem clm_tail {w0 w : World} {c : Eng.Claim} {T T1 : List Eng.Claim} (A : List Eng.Claim) (S : Sep w0 ((c :: T) ++ (A ++ T1)) w) : Sep w0 (c :: (A ++ (T ++ T1))) w :=
  clm_perm (List.Perm.cons _ (List.perm_append_comm_assoc T A T1)) S
theorem clm_tail0 {w0 w : World} {c : Eng.Claim} {T : List Eng.Claim} (A : List Eng.Claim) (S : Sep w0 ((c :: T) ++ A) w) : Sep w0 (c :: (A ++ T)) w :=
  clm_perm (List.Perm.cons _ List.perm_append_comm) S
def K13a_0 := adv 2 [] (bodyOf Tryd.f13)
def K13a_1 := adv 6 [] (popK (popK K13a_0))
def K13a_2 := adv 1 [] (popK K13a_1)
def K13a_3 := adv 1 [] (popK K13a_2)
def K13a_4 := adv 2 [] K13a_3
def K13a_5 := adv 1 [] (popK K13a_4)
def K13a_6 := adv 1 [] (popK K13a_5)
def K13a_7 := adv 3 [] K13a_6
def K13a_8 := adv 1 [] (popK K13a_7)
def K13a_9 := adv 1 [] (popK K13a_8)
def K13a_10 := adv 3 [] K13a_9
def K13a_11 := adv 1 [] (popK K13a_10)
def K13a_12 := adv 1 [] (popK K13a_11)
def K13a_13 := adv 3 [] K13a_12
def K13a_14 := adv 2 [] (popK K13a_13)
def K13a_15 := adv 2 [] (popK K13a_14)
def K13a_16 := adv 11 [false] K13a_15
def K13a_17 := adv 5 [] K13a_16
def K13a_18 := adv 3 [] (popK K13a_17)
def K13a_19 := adv 5 [true] K13a_18
def K13a_20 := adv 6 [false] (rRest K13a_19)
def K13a_21 := adv 6 [false] K13a_18
set_option maxRecDepth 20000 in
set_option maxHeartbeats 20000000 in
theorem same2_any (f : Frm) (ga : Option Addr) (gc : Nat) (w : World) (hf : frmQ w f) (hga : Recs sigE 10 w ga f.gSignals_n f.gSignals_l) : Ret Tryd.prog 13 #[.agg #[.string f.gName, iv f.gID, iv f.gLength, .bool f.gGuarded, .slice f.gSignals_a f.gSignals_n f.gSignals_c], .agg #[.string f.gName, iv f.gID, iv f.gLength, .bool f.gGuarded, .slice ga f.gSignals_n gc]] w (fun v w' => v = .bool true ∧ Sep w [] w') := by
 have S0 := Sep.refl w
 refine Ret.named fun R hR => ?_
 refine Ret.of_J (N := 59) [(0, .agg #[.string f.gName, iv f.gID, iv f.gLength, .bool f.gGuarded, .slice f.gSignals_a f.gSignals_n f.gSignals_c]), (1, .agg #[.string f.gName, iv f.gID, iv f.gLength, .bool f.gGuarded, .slice ga f.gSignals_n gc])] Tryd.func13 rfl rfl (Nat.le_of_ble_eq_true (by kernel_rfl)) (by kernel_rfl) ?_
 obtain ⟨q1, q2, q3, q4, q5, q6, _⟩ := id hf
 have ql1 := q5.len_eq
 refine J.run 2 K13a_0 [(0, .agg #[.string f.gName, iv f.gID, iv f.gLength, .bool f.gGuarded, .slice f.gSignals_a f.gSignals_n f.gSignals_c]), (1, .agg #[.string f.gName, iv f.gID, iv f.gLength, .bool f.gGuarded, .slice ga f.gSignals_n gc])] w (by kernel_rfl) ?_
 refine J.new S0 2 [.string f.gName, iv f.gID, iv f.gLength, .bool f.gGuarded, .slice f.gSignals_a f.gSignals_n f.gSignals_c] 34 (by kernel_rfl) ?_
 intro b1 w1 S1
 refine J.new S1 3 [.string f.gName, iv f.gID, iv f.gLength, .bool f.gGuarded, .slice ga f.gSignals_n gc] 34 (by kernel_rfl) ?_
 intro b2 w2 S2
 refine J.run 6 K13a_1 [(6, .pointer (some ⟨b1, 0, none⟩)), (3, .pointer (some ⟨b2, 0, none⟩)), (2, .pointer (some ⟨b1, 0, none⟩))] w2 (by kernel_rfl) ?_
 refine J.ok (OK.ldBox S2 1 7 9 0 (.string f.gName) (by kernel_rfl) rfl (by kernel_rfl)) ?_
 refine J.run 1 K13a_2 [(8, .pointer (some ⟨b2, 0, none⟩)), (7, .string f.gName), (3, .pointer (some ⟨b2, 0, none⟩)), (2, .pointer (some ⟨b1, 0, none⟩))] w2 (by kernel_rfl) ?_
 refine J.ok (OK.ldBox S2 0 9 9 0 (.string f.gName) (by kernel_rfl) rfl (by kernel_rfl)) ?_
 refine J.run 1 K13a_3 [(10, .bool (!(f.gName.toList == f.gName.toList))), (3, .pointer (some ⟨b2, 0, none⟩)), (2, .pointer (some ⟨b1, 0, none⟩))] w2 (by kernel_rfl) ?_
 refine J.head (.bool false) (congrArg Value.bool (by simp)) ?_
 refine J.run 2 K13a_4 [(12, .pointer (some ⟨b1, 1, none⟩)), (11, .bool false), (3, .pointer (some ⟨b2, 0, none⟩)), (2, .pointer (some ⟨b1, 0, none⟩))] w2 (by kernel_rfl) ?_
 refine J.ok (OK.ldBox S2 1 13 3 1 (iv f.gID) (by kernel_rfl) rfl (by kernel_rfl)) ?_
 refine J.run 1 K13a_5 [(14, .pointer (some ⟨b2, 1, none⟩)), (13, iv f.gID), (11, .bool false), (3, .pointer (some ⟨b2, 0, none⟩)), (2, .pointer (some ⟨b1, 0, none⟩))] w2 (by kernel_rfl) ?_
 refine J.ok (OK.ldBox S2 0 15 3 1 (iv f.gID) (by kernel_rfl) rfl (by kernel_rfl)) ?_
 refine J.run 1 K13a_6 [(16, .bool (f.gID != f.gID)), (11, .bool false), (3, .pointer (some ⟨b2, 0, none⟩)), (2, .pointer (some ⟨b1, 0, none⟩))] w2 (by kernel_rfl) ?_
 refine J.head (.bool false) (congrArg Value.bool (by simp)) ?_
 refine J.run 3 K13a_7 [(19, .pointer (some ⟨b1, 2, none⟩)), (18, .bool false), (3, .pointer (some ⟨b2, 0, none⟩)), (2, .pointer (some ⟨b1, 0, none⟩))] w2 (by kernel_rfl) ?_
 refine J.ok (OK.ldBox S2 1 20 3 2 (iv f.gLength) (by kernel_rfl) rfl (by kernel_rfl)) ?_
 refine J.run 1 K13a_8 [(21, .pointer (some ⟨b2, 2, none⟩)), (20, iv f.gLength), (18, .bool false), (3, .pointer (some ⟨b2, 0, none⟩)), (2, .pointer (some ⟨b1, 0, none⟩))] w2 (by kernel_rfl) ?_
 refine J.ok (OK.ldBox S2 0 22 3 2 (iv f.gLength) (by kernel_rfl) rfl (by kernel_rfl)) ?_
 refine J.run 1 K13a_9 [(23, .bool (f.gLength != f.gLength)), (18, .bool false), (3, .pointer (some ⟨b2, 0, none⟩)), (2, .pointer (some ⟨b1, 0, none⟩))] w2 (by kernel_rfl) ?_
 refine J.head (.bool false) (congrArg Value.bool (by simp)) ?_
 refine J.run 3 K13a_10 [(26, .pointer (some ⟨b1, 3, none⟩)), (25, .bool false), (3, .pointer (some ⟨b2, 0, none⟩)), (2, .pointer (some ⟨b1, 0, none⟩))] w2 (by kernel_rfl) ?_
 refine J.ok (OK.ldBox S2 1 27 4 3 (.bool f.gGuarded) (by kernel_rfl) rfl (by kernel_rfl)) ?_
 refine J.run 1 K13a_11 [(28, .pointer (some ⟨b2, 3, none⟩)), (27, .bool f.gGuarded), (25, .bool false), (3, .pointer (some ⟨b2, 0, none⟩)), (2, .pointer (some ⟨b1, 0, none⟩))] w2 (by kernel_rfl) ?_
 refine J.ok (OK.ldBox S2 0 29 4 3 (.bool f.gGuarded) (by kernel_rfl) rfl (by kernel_rfl)) ?_
 refine J.run 1 K13a_12 [(30, .bool (!(f.gGuarded == f.gGuarded))), (25, .bool false), (3, .pointer (some ⟨b2, 0, none⟩)), (2, .pointer (some ⟨b1, 0, none⟩))] w2 (by kernel_rfl) ?_
 refine J.head (.bool false) (congrArg Value.bool (by simp)) ?_
 refine J.run 3 K13a_13 [(33, .pointer (some ⟨b1, 4, none⟩)), (32, .bool false), (3, .pointer (some ⟨b2, 0, none⟩)), (2, .pointer (some ⟨b1, 0, none⟩))] w2 (by kernel_rfl) ?_
 refine J.ok (OK.ldBox S2 1 34 32 4 (.slice f.gSignals_a f.gSignals_n f.gSignals_c) (by kernel_rfl) rfl (by kernel_rfl)) ?_
 refine J.run 2 K13a_14 [(36, .pointer (some ⟨b2, 4, none⟩)), (35, iv (f.gSignals_n : Int)), (32, .bool false), (3, .pointer (some ⟨b2, 0, none⟩)), (2, .pointer (some ⟨b1, 0, none⟩))] w2 (by kernel_rfl) ?_
 refine J.ok (OK.ldBox S2 0 37 32 4 (.slice ga f.gSignals_n gc) (by kernel_rfl) rfl (by kernel_rfl)) ?_
 refine J.run 2 K13a_15 [(39, .bool ((f.gSignals_n : Int) != (f.gSignals_n : Int))), (32, .bool false), (3, .pointer (some ⟨b2, 0, none⟩)), (2, .pointer (some ⟨b1, 0, none⟩))] w2 (by kernel_rfl) ?_
 refine J.head (.bool false) (congrArg Value.bool (by simp)) ?_
 refine J.run 11 K13a_16 [(5, iv 0), (3, .pointer (some ⟨b2, 0, none⟩)), (2, .pointer (some ⟨b1, 0, none⟩))] w2 (by kernel_rfl) ?_
 have L13_1 : ∀ (mm_ : Nat) (i : Int) (w3 : World), (0 ≤ i) → (i ≤ (f.gSignals_n : Int)) → Sep w [box b2 [.string f.gName, iv f.gID, iv f.gLength, .bool f.gGuarded, .slice ga f.gSignals_n gc] 34, box b1 [.string f.gName, iv f.gID, iv f.gLength, .bool f.gGuarded, .slice f.gSignals_a f.gSignals_n f.gSignals_c] 34] w3 → ((f.gSignals_n : Int) - i).toNat = mm_ → J Tryd.prog 13 59 R K13a_16 [(5, iv i), (3, .pointer (some ⟨b2, 0, none⟩)), (2, .pointer (some ⟨b1, 0, none⟩))] w3 := by
  intro mm1
  induction mm1 using Nat.strongRecOn with
  | _ mm1 ih1 =>
  intro i w3 h0 h1 S3 hm1
  refine J.run 5 K13a_17 [(42, .pointer (some ⟨b1, 4, none⟩)), (41, iv i), (5, iv i), (3, .pointer (some ⟨b2, 0, none⟩)), (2, .pointer (some ⟨b1, 0, none⟩))] w3 (by kernel_rfl) ?_
  refine J.ok (OK.ldBox S3 1 43 32 4 (.slice f.gSignals_a f.gSignals_n f.gSignals_c) (by kernel_rfl) rfl (by kernel_rfl)) ?_
  refine J.run 3 K13a_18 [(45, .bool (decide (i < (f.gSignals_n : Int)))), (5, iv i), (3, .pointer (some ⟨b2, 0, none⟩)), (2, .pointer (some ⟨b1, 0, none⟩))] w3 (by kernel_rfl) ?_
  by_cases fk1 : i < (f.gSignals_n : Int)
  rotate_left
  ·skip
   refine J.head (.bool false) (congrArg Value.bool (decide_eq_false fk1)) ?_
   refine J.run 6 K13a_21 [(4, .bool true)] w3 (by kernel_rfl) ?_
   refine J.ret Tryd.f13 [.bool true] Tryd.func13 ⟨by kernel_rfl, trivial⟩ ?_
   refine hR _ _ ?_
   exact ⟨rfl, S3.nil⟩
  refine J.head (.bool true) (congrArg Value.bool (decide_eq_true fk1)) ?_
  refine J.run 5 K13a_19 [(5, iv i), (3, .pointer (some ⟨b2, 0, none⟩)), (2, .pointer (some ⟨b1, 0, none⟩))] w3 (by kernel_rfl) ?_
  obtain ⟨p1, hp1, hc1⟩ := q5.at sig0 (i).toNat (by omega)
  have hel1 := getD_Q q6 sig0 (n := (i).toNat) (by have := q5.len_eq; omega)
  obtain ⟨q7, q8, q9, q10, q11, q12, q13, q14, _⟩ := id hel1
  obtain ⟨p2, hp2, hc2⟩ := hga.at sig0 (i).toNat (by omega)
  refine J.drawStill S3 11 Tryd.mixed (by kernel_rfl) (by kernel_rfl) (by kernel_rfl) ?_
  intro w4 S4
  refine SL.ok (by decide) (OK.run 48 (.pointer (some ⟨b1, 4, none⟩)) (by kernel_rfl)) ?_
  refine SL.ok (by decide) (OK.ldBox S4 1 49 32 4 (.slice f.gSignals_a f.gSignals_n f.gSignals_c) (by kernel_rfl) rfl (by kernel_rfl)) ?_
  refine SL.ok (by decide) (OK.run 50 (iv i) (by kernel_rfl)) ?_
  refine SL.ok (by decide) (OK.index 51 32 10 f.gSignals_a p1 f.gSignals_n (i).toNat i (p1.add ((i).toNat * 10)) (by kernel_rfl) (by kernel_rfl) hp1 (by omega) (by omega) rfl) ?_
  refine SL.ok (by decide) (OK.ldCells 52 57 (p1.add ((i).toNat * 10)) [.string ((f.gSignals_l.getD (i).toNat sig0).gName), iv ((f.gSignals_l.getD (i).toNat sig0).gStart), iv ((f.gSignals_l.getD (i).toNat sig0).gLength), .bool ((f.gSignals_l.getD (i).toNat sig0).gMotorola), .bool ((f.gSignals_l.getD (i).toNat sig0).gSigned), iv ((f.gSignals_l.getD (i).toNat sig0).gNum), iv ((f.gSignals_l.getD (i).toNat sig0).gOff), iv ((f.gSignals_l.getD (i).toNat sig0).gDen), iv ((f.gSignals_l.getD (i).toNat sig0).gLow), iv ((f.gSignals_l.getD (i).toNat sig0).gHigh)] (by kernel_rfl) (by kernel_rfl) (by kernel_rfl) (fun j_ v_ hj_ => S4.cell (hc1 j_ v_ hj_))) ?_
  refine SL.ok (by decide) (OK.run 53 (.pointer (some ⟨b2, 4, none⟩)) (by kernel_rfl)) ?_
  refine SL.ok (by decide) (OK.ldBox S4 0 54 32 4 (.slice ga f.gSignals_n gc) (by kernel_rfl) rfl (by kernel_rfl)) ?_
  refine SL.ok (by decide) (OK.run 55 (iv i) (by kernel_rfl)) ?_
  refine SL.ok (by decide) (OK.index 56 32 10 ga p2 f.gSignals_n (i).toNat i (p2.add ((i).toNat * 10)) (by kernel_rfl) (by kernel_rfl) hp2 (by omega) (by omega) rfl) ?_
  refine SL.ok (by decide) (OK.ldCells 57 57 (p2.add ((i).toNat * 10)) [.string ((f.gSignals_l.getD (i).toNat sig0).gName), iv ((f.gSignals_l.getD (i).toNat sig0).gStart), iv ((f.gSignals_l.getD (i).toNat sig0).gLength), .bool ((f.gSignals_l.getD (i).toNat sig0).gMotorola), .bool ((f.gSignals_l.getD (i).toNat sig0).gSigned), iv ((f.gSignals_l.getD (i).toNat sig0).gNum), iv ((f.gSignals_l.getD (i).toNat sig0).gOff), iv ((f.gSignals_l.getD (i).toNat sig0).gDen), iv ((f.gSignals_l.getD (i).toNat sig0).gLow), iv ((f.gSignals_l.getD (i).toNat sig0).gHigh)] (by kernel_rfl) (by kernel_rfl) (by kernel_rfl) (fun j_ v_ hj_ => S4.cell (hc2 j_ v_ hj_))) ?_
  refine SL.ok (by decide) (OK.eqS 58 false 57 #[.string ((f.gSignals_l.getD (i).toNat sig0).gName), iv ((f.gSignals_l.getD (i).toNat sig0).gStart), iv ((f.gSignals_l.getD (i).toNat sig0).gLength), .bool ((f.gSignals_l.getD (i).toNat sig0).gMotorola), .bool ((f.gSignals_l.getD (i).toNat sig0).gSigned), iv ((f.gSignals_l.getD (i).toNat sig0).gNum), iv ((f.gSignals_l.getD (i).toNat sig0).gOff), iv ((f.gSignals_l.getD (i).toNat sig0).gDen), iv ((f.gSignals_l.getD (i).toNat sig0).gLow), iv ((f.gSignals_l.getD (i).toNat sig0).gHigh)] #[.string ((f.gSignals_l.getD (i).toNat sig0).gName), iv ((f.gSignals_l.getD (i).toNat sig0).gStart), iv ((f.gSignals_l.getD (i).toNat sig0).gLength), .bool ((f.gSignals_l.getD (i).toNat sig0).gMotorola), .bool ((f.gSignals_l.getD (i).toNat sig0).gSigned), iv ((f.gSignals_l.getD (i).toNat sig0).gNum), iv ((f.gSignals_l.getD (i).toNat sig0).gOff), iv ((f.gSignals_l.getD (i).toNat sig0).gDen), iv ((f.gSignals_l.getD (i).toNat sig0).gLow), iv ((f.gSignals_l.getD (i).toNat sig0).gHigh)] ((((f.gSignals_l.getD (i).toNat sig0).gName).toList == ((f.gSignals_l.getD (i).toNat sig0).gName).toList) && ((((f.gSignals_l.getD (i).toNat sig0).gStart) == ((f.gSignals_l.getD (i).toNat sig0).gStart)) && ((((f.gSignals_l.getD (i).toNat sig0).gLength) == ((f.gSignals_l.getD (i).toNat sig0).gLength)) && ((((f.gSignals_l.getD (i).toNat sig0).gMotorola) == ((f.gSignals_l.getD (i).toNat sig0).gMotorola)) && ((((f.gSignals_l.getD (i).toNat sig0).gSigned) == ((f.gSignals_l.getD (i).toNat sig0).gSigned)) && ((((f.gSignals_l.getD (i).toNat sig0).gNum) == ((f.gSignals_l.getD (i).toNat sig0).gNum)) && ((((f.gSignals_l.getD (i).toNat sig0).gOff) == ((f.gSignals_l.getD (i).toNat sig0).gOff)) && ((((f.gSignals_l.getD (i).toNat sig0).gDen) == ((f.gSignals_l.getD (i).toNat sig0).gDen)) && ((((f.gSignals_l.getD (i).toNat sig0).gLow) == ((f.gSignals_l.getD (i).toNat sig0).gLow)) && ((((f.gSignals_l.getD (i).toNat sig0).gHigh) == ((f.gSignals_l.getD (i).toNat sig0).gHigh)) && true)))))))))) (by kernel_rfl) (by kernel_rfl) (by kernel_rfl) false (by simp)) ?_
  refine SL.done ?_
  refine TL.done (by kernel_rfl) ?_
  refine J.run 0 (rRest K13a_19) [(58, .bool false), (5, iv i), (3, .pointer (some ⟨b2, 0, none⟩)), (2, .pointer (some ⟨b1, 0, none⟩))] w4 (by kernel_rfl) ?_
  refine J.run 6 K13a_20 [(47, iv (IntKind.wrap .i64 (i + 1))), (3, .pointer (some ⟨b2, 0, none⟩)), (2, .pointer (some ⟨b1, 0, none⟩))] w4 (by kernel_rfl) ?_
  refine J.head (iv (i + 1)) (congrArg (Value.int .i64) (IntWalk.i64_in _ (by omega))) ?_
  refine J.run 3 K13a_16 [(5, iv (i + 1)), (3, .pointer (some ⟨b2, 0, none⟩)), (2, .pointer (some ⟨b1, 0, none⟩))] w4 (by kernel_rfl) ?_
  refine J.run 0 K13a_16 [(5, iv (i + 1)), (3, .pointer (some ⟨b2, 0, none⟩)), (2, .pointer (some ⟨b1, 0, none⟩))] w4 (by kernel_rfl) ?_
  exact ih1 _ (show ((f.gSignals_n : Int) - (i + 1)).toNat < mm1 from by omega) (i + 1) w4 (by omega) (by omega) S4 rfl
 exact L13_1 _ 0 w2 (by omega) (by omega) S2 rfl

theorem same_rec (f g : Frm) (w : World) (h : clF f = clF g) (hf : frmQ w f) (hg : frmQ w g) : Ret Tryd.prog 13 #[.agg #[.string f.gName, iv f.gID, iv f.gLength, .bool f.gGuarded, .slice f.gSignals_a f.gSignals_n f.gSignals_c], .agg #[.string g.gName, iv g.gID, iv g.gLength, .bool g.gGuarded, .slice g.gSignals_a g.gSignals_n g.gSignals_c]] w (fun v w' => v = .bool true ∧ Sep w [] w') := by
  have hnf := hf.2.2.2.2.1.len_eq
  have hng := hg.2.2.2.2.1.len_eq
  obtain ⟨n1, i1, l1, g1, a1, k1, c1, s1⟩ := f
  obtain ⟨n2, i2, l2, g2, a2, k2, c2, s2⟩ := g
  simp only [clF, Frm.mk.injEq] at h
  obtain ⟨rfl, rfl, rfl, rfl, _, _, _, rfl⟩ := h
  have hk : k2 = k1 := hng.symm.trans hnf
  subst hk
  exact same2_any ⟨n1, i1, l1, g1, a1, k2, c1, s1⟩ a2 c2 w hf hg.2.2.2.2.1
theorem hb16 : HasBody Tryd.prog 16 := fun _ _ => by kernel_rfl
def K16_0 := adv 2 [] (bodyOf Tryd.f16)
def K16_1 := adv 6 [] (popK (popK K16_0))
def K16_2 := adv 2 [] (popK K16_1)
def K16_3 := adv 3 [] (popK K16_2)
def K16_4 := adv 9 [false] K16_3
def K16_5 := adv 5 [] K16_4
def K16_6 := adv 3 [] (popK K16_5)
def K16_7 := adv 5 [true] K16_6
def K16_8 := adv 6 [false] (rRest K16_7)
def K16_9 := adv 6 [false] K16_6
set_option maxRecDepth 20000 in
set_option maxHeartbeats 20000000 in
theorem sameD_any (aa ab : Option Addr) (ca cb na nb : Nat) (la lb : List Frm) (w : World) (hra : Recs frmE 5 w aa na la) (hrb : Recs frmE 5 w ab nb lb) (hqa : ∀ y ∈ la, frmQ w y) (hqb : ∀ y ∈ lb, frmQ w y) (hcl : la.map clF = lb.map clF) (hn : na ≤ 9223372036854775807) : Ret Tryd.prog 16 #[.agg #[.slice aa na ca], .agg #[.slice ab nb cb]] w (fun v w' => v = .bool true ∧ Sep w [] w') := by
 have S0 := Sep.refl w
 refine Ret.named fun R hR => ?_
 refine Ret.of_J (N := 32) [(0, .agg #[.slice aa na ca]), (1, .agg #[.slice ab nb cb])] Tryd.func16 rfl rfl (Nat.le_of_ble_eq_true (by kernel_rfl)) (by kernel_rfl) ?_
 have hll := cl_len hcl
 have hl1 := hra.len_eq
 have hl2 := hrb.len_eq
 refine J.run 2 K16_0 [(0, .agg #[.slice aa na ca]), (1, .agg #[.slice ab nb cb])] w (by kernel_rfl) ?_
 refine J.new S0 2 [.slice aa na ca] 24 (by kernel_rfl) ?_
 intro b1 w1 S1
 refine J.new S1 3 [.slice ab nb cb] 24 (by kernel_rfl) ?_
 intro b2 w2 S2
 refine J.run 6 K16_1 [(6, .pointer (some ⟨b1, 0, none⟩)), (3, .pointer (some ⟨b2, 0, none⟩)), (2, .pointer (some ⟨b1, 0, none⟩))] w2 (by kernel_rfl) ?_
 refine J.ok (OK.ldBox S2 1 7 22 0 (.slice aa na ca) (by kernel_rfl) rfl (by kernel_rfl)) ?_
 refine J.run 2 K16_2 [(9, .pointer (some ⟨b2, 0, none⟩)), (8, iv (na : Int)), (3, .pointer (some ⟨b2, 0, none⟩)), (2, .pointer (some ⟨b1, 0, none⟩))] w2 (by kernel_rfl) ?_
 refine J.ok (OK.ldBox S2 0 10 22 0 (.slice ab nb cb) (by kernel_rfl) rfl (by kernel_rfl)) ?_
 refine J.run 3 K16_3 [(12, .bool ((na : Int) != (nb : Int))), (3, .pointer (some ⟨b2, 0, none⟩)), (2, .pointer (some ⟨b1, 0, none⟩))] w2 (by kernel_rfl) ?_
 have fk2 : (na : Int) = (nb : Int) := by omega
 refine J.head (.bool false) (congrArg Value.bool (bne_eq_false_iff_eq.2 fk2)) ?_
 refine J.run 9 K16_4 [(5, iv 0), (3, .pointer (some ⟨b2, 0, none⟩)), (2, .pointer (some ⟨b1, 0, none⟩))] w2 (by kernel_rfl) ?_
 have L16_1 : ∀ (mm_ : Nat) (i : Int) (w3 : World), (0 ≤ i) → (i ≤ (na : Int)) → Sep w [box b2 [.slice ab nb cb] 24, box b1 [.slice aa na ca] 24] w3 → ((na : Int) - i).toNat = mm_ → J Tryd.prog 16 32 R K16_4 [(5, iv i), (3, .pointer (some ⟨b2, 0, none⟩)), (2, .pointer (some ⟨b1, 0, none⟩))] w3 := by
  intro mm1
  induction mm1 using Nat.strongRecOn with
  | _ mm1 ih1 =>
  intro i w3 h0 h1 S3 hm1
  refine J.run 5 K16_5 [(14, .pointer (some ⟨b1, 0, none⟩)), (13, iv i), (5, iv i), (3, .pointer (some ⟨b2, 0, none⟩)), (2, .pointer (some ⟨b1, 0, none⟩))] w3 (by kernel_rfl) ?_
  refine J.ok (OK.ldBox S3 1 15 22 0 (.slice aa na ca) (by kernel_rfl) rfl (by kernel_rfl)) ?_
  refine J.run 3 K16_6 [(17, .bool (decide (i < (na : Int)))), (5, iv i), (3, .pointer (some ⟨b2, 0, none⟩)), (2, .pointer (some ⟨b1, 0, none⟩))] w3 (by kernel_rfl) ?_
  by_cases fk3 : i < (na : Int)
  rotate_left
  ·skip
   refine J.head (.bool false) (congrArg Value.bool (decide_eq_false fk3)) ?_
   refine J.run 6 K16_9 [(4, .bool true)] w3 (by kernel_rfl) ?_
   refine J.ret Tryd.f16 [.bool true] Tryd.func16 ⟨by kernel_rfl, trivial⟩ ?_
   refine hR _ _ ?_
   exact ⟨rfl, S3.nil⟩
  refine J.head (.bool true) (congrArg Value.bool (decide_eq_true fk3)) ?_
  refine J.run 5 K16_7 [(5, iv i), (3, .pointer (some ⟨b2, 0, none⟩)), (2, .pointer (some ⟨b1, 0, none⟩))] w3 (by kernel_rfl) ?_
  obtain ⟨p1, hp1, hc1⟩ := hra.at frm0 (i).toNat (by omega)
  obtain ⟨p2, hp2, hc2⟩ := hrb.at frm0 (i).toNat (by omega)
  refine J.drawTail S3 10 Tryd.mixed (by kernel_rfl) (by kernel_rfl) ?_
  intro w4 S4
  refine SL.ok (by decide) (OK.run 20 (.pointer (some ⟨b1, 0, none⟩)) (by kernel_rfl)) ?_
  refine SL.ok (by decide) (OK.ldBox S4 1 21 22 0 (.slice aa na ca) (by kernel_rfl) rfl (by kernel_rfl)) ?_
  refine SL.ok (by decide) (OK.run 22 (iv i) (by kernel_rfl)) ?_
  refine SL.ok (by decide) (OK.index 23 22 5 aa p1 na (i).toNat i (p1.add ((i).toNat * 5)) (by kernel_rfl) (by kernel_rfl) hp1 (by omega) (by omega) rfl) ?_
  refine SL.ok (by decide) (OK.ldCells 24 34 (p1.add ((i).toNat * 5)) [.string ((la.getD (i).toNat frm0).gName), iv ((la.getD (i).toNat frm0).gID), iv ((la.getD (i).toNat frm0).gLength), .bool ((la.getD (i).toNat frm0).gGuarded), .slice ((la.getD (i).toNat frm0).gSignals_a) ((la.getD (i).toNat frm0).gSignals_n) ((la.getD (i).toNat frm0).gSignals_c)] (by kernel_rfl) (by kernel_rfl) (by kernel_rfl) (fun j_ v_ hj_ => S4.cell (hc1 j_ v_ hj_))) ?_
  refine SL.ok (by decide) (OK.run 25 (.pointer (some ⟨b2, 0, none⟩)) (by kernel_rfl)) ?_
  refine SL.ok (by decide) (OK.ldBox S4 0 26 22 0 (.slice ab nb cb) (by kernel_rfl) rfl (by kernel_rfl)) ?_
  refine SL.ok (by decide) (OK.run 27 (iv i) (by kernel_rfl)) ?_
  refine SL.ok (by decide) (OK.index 28 22 5 ab p2 nb (i).toNat i (p2.add ((i).toNat * 5)) (by kernel_rfl) (by kernel_rfl) hp2 (by omega) (by omega) rfl) ?_
  refine SL.ok (by decide) (OK.ldCells 29 34 (p2.add ((i).toNat * 5)) [.string ((lb.getD (i).toNat frm0).gName), iv ((lb.getD (i).toNat frm0).gID), iv ((lb.getD (i).toNat frm0).gLength), .bool ((lb.getD (i).toNat frm0).gGuarded), .slice ((lb.getD (i).toNat frm0).gSignals_a) ((lb.getD (i).toNat frm0).gSignals_n) ((lb.getD (i).toNat frm0).gSignals_c)] (by kernel_rfl) (by kernel_rfl) (by kernel_rfl) (fun j_ v_ hj_ => S4.cell (hc2 j_ v_ hj_))) ?_
  refine SL.done ?_
  refine TL.callF 30 13 #[.agg #[.string ((la.getD (i).toNat frm0).gName), iv ((la.getD (i).toNat frm0).gID), iv ((la.getD (i).toNat frm0).gLength), .bool ((la.getD (i).toNat frm0).gGuarded), .slice ((la.getD (i).toNat frm0).gSignals_a) ((la.getD (i).toNat frm0).gSignals_n) ((la.getD (i).toNat frm0).gSignals_c)], .agg #[.string ((lb.getD (i).toNat frm0).gName), iv ((lb.getD (i).toNat frm0).gID), iv ((lb.getD (i).toNat frm0).gLength), .bool ((lb.getD (i).toNat frm0).gGuarded), .slice ((lb.getD (i).toNat frm0).gSignals_a) ((lb.getD (i).toNat frm0).gSignals_n) ((lb.getD (i).toNat frm0).gSignals_c)]] hb13 (by kernel_rfl) (same_rec (la.getD (i).toNat frm0) (lb.getD (i).toNat frm0) _ (cl_at hcl i.toNat) (frmQ_sep (q_at hqa i.toNat) S4) (frmQ_sep (q_at hqb i.toNat) S4)) ?_
  rintro _ w5 ⟨rfl, T1⟩
  have S5 : Sep w [box b2 [.slice ab nb cb] 24, box b1 [.slice aa na ca] 24] w5 := S4.trans T1
  clear T1 S4
  refine TL.ok (OK.run 31 (.bool false) (by kernel_rfl)) ?_
  refine TL.done (by kernel_rfl) ?_
  refine J.run 0 (rRest K16_7) [(31, .bool false), (5, iv i), (3, .pointer (some ⟨b2, 0, none⟩)), (2, .pointer (some ⟨b1, 0, none⟩))] w5 (by kernel_rfl) ?_
  refine J.run 6 K16_8 [(19, iv (IntKind.wrap .i64 (i + 1))), (3, .pointer (some ⟨b2, 0, none⟩)), (2, .pointer (some ⟨b1, 0, none⟩))] w5 (by kernel_rfl) ?_
  refine J.head (iv (i + 1)) (congrArg (Value.int .i64) (IntWalk.i64_in _ (by omega))) ?_
  refine J.run 3 K16_4 [(5, iv (i + 1)), (3, .pointer (some ⟨b2, 0, none⟩)), (2, .pointer (some ⟨b1, 0, none⟩))] w5 (by kernel_rfl) ?_
  refine J.run 0 K16_4 [(5, iv (i + 1)), (3, .pointer (some ⟨b2, 0, none⟩)), (2, .pointer (some ⟨b1, 0, none⟩))] w5 (by kernel_rfl) ?_
  exact ih1 _ (show ((na : Int) - (i + 1)).toNat < mm1 from by omega) (i + 1) w5 (by omega) (by omega) S5 rfl
 exact L16_1 _ 0 w2 (by omega) (by omega) S2 rfl

end
end Go.Proofs.YthiklimfffhbaaaDoor

