/- Walks of functions of this seat, printed by a program over the engine. Conditions: as each theorem says. -/
import Derived.Test.YtlklealllohmgaaDoorX7
namespace Go.Proofs.YtlklealllohmgaaDoor
open Go.Eng Go.RowKit
set_option linter.unusedSimpArgs false
set_option linter.unusedVariables false
structure Kw where
  gname : ByteArray
  garguments : Int
  gnumbers : Int
  gtable : Int
def kwE (x : Kw) : List Value := [.string x.gname, .int .i64 x.garguments, .int .i64 x.gnumbers, .int .i64 x.gtable]
def kwQ (w : World) (x : Kw) : Prop := x.gname.size ≤ 9223372036854775807 ∧ ((-9223372036854775808) ≤ x.garguments ∧ x.garguments ≤ 9223372036854775807) ∧ ((-9223372036854775808) ≤ x.gnumbers ∧ x.gnumbers ≤ 9223372036854775807) ∧ ((-9223372036854775808) ≤ x.gtable ∧ x.gtable ≤ 9223372036854775807) ∧ True
theorem kwQ_sep {w0 w : World} {L : List Eng.Claim} {x : Kw} (h : kwQ w0 x) (S : Sep w0 L w) : kwQ w x := by
  obtain ⟨hgname, hgarguments, hgnumbers, hgtable, _⟩ := h
  exact ⟨hgname, hgarguments, hgnumbers, hgtable, trivial⟩
def eqT (a b : ByteArray) : Bool := a.toList == b.toList
theorem eqT_comm (a b : ByteArray) : eqT a b = eqT b a := by unfold eqT; rw [Bool.eq_iff_iff, beq_iff_eq, beq_iff_eq]; exact eq_comm
theorem eqT_refl (a : ByteArray) : eqT a a = true := beq_self_eq_true _
def eqTs (l m : List ByteArray) : Bool := decide (l.length = m.length) && (List.range l.length).all fun j => eqT (l.getD j ByteArray.empty) (m.getD j ByteArray.empty)
theorem eqTs_refl (l : List ByteArray) : eqTs l l = true := by
  unfold eqTs; rw [decide_eq_true rfl, Bool.true_and, List.all_eq_true]; intro j _; exact eqT_refl _
theorem eqTs_no {l m : List ByteArray} (h : l.length ≠ m.length) : eqTs l m = false := by unfold eqTs; rw [decide_eq_false h]; rfl
theorem eqTs_bad {l m : List ByteArray} {j : Nat} (h : j < l.length) (h2 : eqT (l.getD j ByteArray.empty) (m.getD j ByteArray.empty) = false) : eqTs l m = false := by
  unfold eqTs; rw [Bool.and_eq_false_iff, List.all_eq_false]; exact .inr ⟨j, List.mem_range.2 h, by rw [h2]; decide⟩
theorem eqTs_yes {l m : List ByteArray} (h : l.length = m.length) (h2 : ∀ j, j < l.length → eqT (l.getD j ByteArray.empty) (m.getD j ByteArray.empty) = true) : eqTs l m = true := by
  unfold eqTs; rw [decide_eq_true h, Bool.true_and, List.all_eq_true]; intro j hj; exact h2 j (List.mem_range.1 hj)
theorem str_step {q : Nat → Prop} {i : Int} (h0 : 0 ≤ i) (hq : ∀ k, k < i.toNat → q k) (h : q i.toNat) : ∀ k, k < (i + 1).toNat → q k := by
  intro k hk
  by_cases e : k = i.toNat
  · subst e; exact h
  · exact hq k (by omega)
theorem hb49 : HasBody Tryd.prog 49 := fun _ _ => by kernel_rfl
noncomputable def K49_0 : List Item := adv 13 [] (bodyOf Tryd.f49)
noncomputable def K49_1 : List Item := adv 5 [] K49_0
noncomputable def K49_2 : List Item := adv 14 [true] K49_1
noncomputable def K49_3 : List Item := adv 2 [] (popK (popK K49_2))
noncomputable def K49_4 : List Item := adv 6 [true] K49_3
noncomputable def K49_5 : List Item := adv 5 [false] K49_3
noncomputable def K49_6 : List Item := adv 6 [false] K49_1
set_option maxRecDepth 20000 in
set_option maxHeartbeats 20000000 in
theorem indexS (la : Option Addr) (len cap : Nat) (l : List ByteArray) (x : ByteArray) (w : World) (hI : Ones Value.string w la len l) (hlen : len ≤ 9223372036854775807) : Ret Tryd.prog 49 #[.slice la len cap, .string x] w (fun v w' => v = .int .i64 (indexF (eqT x) l) ∧ Sep w [] w') := by
  have S0 := Sep.refl w
  refine Ret.named fun R hR => ?_
  refine Ret.of_J (N := 19) [(0, .slice la len cap), (1, .string x)] Tryd.func49 rfl rfl (Nat.le_of_ble_eq_true (by kernel_rfl)) (by kernel_rfl) ?_
  refine J.run 13 K49_0 [(8, .int .i64 0), (7, .int .i64 (len : Int)), (0, .slice la len cap), (1, .string x)] w (by kernel_rfl) ?_
  have L49_1 : ∀ (mm_ : Nat) (i : Int) (w1 : World), (0 ≤ i) → (i ≤ (len : Int)) → (∀ j, j < (i).toNat → eqT x (l.getD j ByteArray.empty) = false) → Sep w [] w1 → ((len : Int) - i).toNat = mm_ → J Tryd.prog 49 19 R K49_0 [(8, .int .i64 i), (7, .int .i64 (len : Int)), (0, .slice la len cap), (1, .string x)] w1 := by
    intro mm1
    induction mm1 using Nat.strongRecOn with
    | _ mm1 ih1 =>
    intro i w1 h0 h1 hq S1 hm1
    refine J.run 5 K49_1 [(9, .bool (decide (i < (len : Int)))), (8, .int .i64 i), (7, .int .i64 (len : Int)), (0, .slice la len cap), (1, .string x)] w1 (by kernel_rfl) ?_
    by_cases fk1 : i < (len : Int)
    · skip
      refine J.head (.bool true) (congrArg Value.bool (decide_eq_true fk1)) ?_
      refine J.run 14 K49_2 [(13, .int .i64 i), (12, .slice la len cap), (11, .string x), (5, .int .i64 i), (8, .int .i64 i), (7, .int .i64 (len : Int)), (0, .slice la len cap), (1, .string x)] w1 (by kernel_rfl) ?_
      obtain ⟨p1, hp1, hc1⟩ := hI.at ByteArray.empty (i).toNat (by omega)
      refine J.ok (OK.index 14 33 1 la p1 len (i).toNat i (p1.add (i).toNat) (by kernel_rfl) (by kernel_rfl) hp1 (by omega) (by omega) (by rw [Nat.mul_one])) ?_
      refine J.ok (OK.ldCell 15 9 (p1.add (i).toNat) (.string (l.getD (i).toNat ByteArray.empty)) (by kernel_rfl) (by kernel_rfl) (S1.cell hc1)) ?_
      refine J.run 2 K49_3 [(16, .bool (x.toList == (l.getD (i).toNat ByteArray.empty).toList)), (5, .int .i64 i), (8, .int .i64 i), (7, .int .i64 (len : Int)), (0, .slice la len cap), (1, .string x)] w1 (by kernel_rfl) ?_
      rcases Bool.eq_false_or_eq_true (x.toList == (l.getD (i).toNat ByteArray.empty).toList) with fk2 | fk2
      · skip
        refine J.head (.bool true) (congrArg Value.bool fk2) ?_
        refine J.run 6 K49_4 [(4, .int .i64 i)] w1 (by kernel_rfl) ?_
        refine J.ret Tryd.f49 [.int .i64 i] Tryd.func49 ⟨by kernel_rfl, trivial⟩ ?_
        refine hR _ _ ?_
        exact ⟨by rw [tup_one, indexF_some ByteArray.empty i.toNat (by have := hI.len_eq; omega) hq fk2, Int.toNat_of_nonneg h0], S1.nil⟩
      · skip
        refine J.head (.bool false) (congrArg Value.bool fk2) ?_
        refine J.run 5 K49_5 [(18, .int .i64 (IntKind.wrap .i64 (i + 1))), (7, .int .i64 (len : Int)), (0, .slice la len cap), (1, .string x)] w1 (by kernel_rfl) ?_
        refine J.head (.int .i64 (i + 1)) (congrArg (Value.int .i64) (IntWalk.i64_in _ (by omega))) ?_
        refine J.run 3 K49_0 [(8, .int .i64 (i + 1)), (7, .int .i64 (len : Int)), (0, .slice la len cap), (1, .string x)] w1 (by kernel_rfl) ?_
        refine J.run 0 K49_0 [(8, .int .i64 (i + 1)), (7, .int .i64 (len : Int)), (0, .slice la len cap), (1, .string x)] w1 (by kernel_rfl) ?_
        exact ih1 _ (show ((len : Int) - (i + 1)).toNat < mm1 from by omega) (i + 1) w1 (by omega) (by omega) (str_step (q := fun j => eqT x (l.getD j ByteArray.empty) = false) h0 hq (fk2)) S1 rfl
    · skip
      refine J.head (.bool false) (congrArg Value.bool (decide_eq_false fk1)) ?_
      refine J.run 6 K49_6 [(4, .int .i64 (-1))] w1 (by kernel_rfl) ?_
      refine J.ret Tryd.f49 [.int .i64 (-1)] Tryd.func49 ⟨by kernel_rfl, trivial⟩ ?_
      refine hR _ _ ?_
      exact ⟨by rw [tup_one, indexF_none ByteArray.empty fun j hj => hq j (by have := hI.len_eq; omega)], S1.nil⟩
  exact L49_1 _ 0 w (by omega) (by omega) (by intro j hj; simp at hj) S0 rfl

theorem hb21 : HasBody Tryd.prog 21 := fun _ _ => by kernel_rfl
noncomputable def K21_0 : List Item := adv 8 [] (bodyOf Tryd.f21)
noncomputable def K21_1 : List Item := adv 3 [] (popK K21_0)
set_option maxRecDepth 20000 in
set_option maxHeartbeats 20000000 in
theorem containsS (la : Option Addr) (len cap : Nat) (l : List ByteArray) (x : ByteArray) (w : World) (hI : Ones Value.string w la len l) (hlen : len ≤ 9223372036854775807) : Ret Tryd.prog 21 #[.slice la len cap, .string x] w (fun v w' => v = .bool (l.any (eqT x)) ∧ Sep w [] w') := by
  have S0 := Sep.refl w
  refine Ret.named fun R hR => ?_
  refine Ret.of_J (N := 9) [(0, .slice la len cap), (1, .string x)] Tryd.func21 rfl rfl (Nat.le_of_ble_eq_true (by kernel_rfl)) (by kernel_rfl) ?_
  refine J.run 8 K21_0 [(6, .string x), (5, .slice la len cap)] w (by kernel_rfl) ?_
  refine J.callF 7 49 #[.slice la len cap, .string x] hb49 (by kernel_rfl) (indexS la len cap l x _ (hI.sep S0) (by first | omega | (simp; omega))) ?_
  rintro _ w1 ⟨rfl, T1⟩
  have S1 : Sep w [] w1 := S0.trans T1
  clear T1
  refine J.run 3 K21_1 [(4, .bool (decide ((indexF (eqT x) l) ≥ 0)))] w1 (by kernel_rfl) ?_
  refine J.ret Tryd.f21 [.bool (decide ((indexF (eqT x) l) ≥ 0))] Tryd.func21 ⟨by kernel_rfl, trivial⟩ ?_
  refine hR _ _ ?_
  exact ⟨congrArg Value.bool (by first | exact indexF_nonneg), S1.nil⟩

theorem hb29 : HasBody Tryd.prog 29 := fun _ _ => by kernel_rfl
noncomputable def K29_0 : List Item := adv 13 [] (bodyOf Tryd.f29)
noncomputable def K29_1 : List Item := adv 11 [false] K29_0
noncomputable def K29_2 : List Item := adv 5 [] K29_1
noncomputable def K29_3 : List Item := adv 10 [true] K29_2
noncomputable def K29_4 : List Item := adv 5 [true] (rRest K29_3)
noncomputable def K29_5 : List Item := adv 5 [false] (rRest K29_3)
noncomputable def K29_6 : List Item := adv 6 [false] K29_2
noncomputable def K29_7 : List Item := adv 5 [true] K29_0
set_option maxRecDepth 20000 in
set_option maxHeartbeats 20000000 in
theorem equalS (la : Option Addr) (na ca : Nat) (xa : List ByteArray) (lb : Option Addr) (nb cb : Nat) (xb : List ByteArray) (w : World) (ha : Ones Value.string w la na xa) (hb : Ones Value.string w lb nb xb) (hla : na ≤ 9223372036854775807) : Ret Tryd.prog 29 #[.slice la na ca, .slice lb nb cb] w (fun v w' => v = .bool (eqTs xa xb) ∧ Sep w [] w') := by
  have S0 := Sep.refl w
  refine Ret.named fun R hR => ?_
  refine Ret.of_J (N := 26) [(0, .slice la na ca), (1, .slice lb nb cb)] Tryd.func29 rfl rfl (Nat.le_of_ble_eq_true (by kernel_rfl)) (by kernel_rfl) ?_
  have hla_ := ha.len_eq
  have hlb_ := hb.len_eq
  refine J.run 13 K29_0 [(10, .bool ((na : Int) != (nb : Int))), (0, .slice la na ca), (1, .slice lb nb cb)] w (by kernel_rfl) ?_
  by_cases fk1 : (na : Int) = (nb : Int)
  · skip
    refine J.head (.bool false) (congrArg Value.bool (bne_eq_false_iff_eq.2 fk1)) ?_
    refine J.run 11 K29_1 [(13, .int .i64 0), (12, .int .i64 (na : Int)), (0, .slice la na ca), (1, .slice lb nb cb)] w (by kernel_rfl) ?_
    have L29_1 : ∀ (mm_ : Nat) (i : Int) (w1 : World), (0 ≤ i) → (i ≤ (na : Int)) → (∀ j, j < (i).toNat → eqT (xa.getD j ByteArray.empty) (xb.getD j ByteArray.empty) = true) → Sep w [] w1 → ((na : Int) - i).toNat = mm_ → J Tryd.prog 29 26 R K29_1 [(13, .int .i64 i), (12, .int .i64 (na : Int)), (0, .slice la na ca), (1, .slice lb nb cb)] w1 := by
      intro mm1
      induction mm1 using Nat.strongRecOn with
      | _ mm1 ih1 =>
      intro i w1 h0 h1 hq S1 hm1
      refine J.run 5 K29_2 [(14, .bool (decide (i < (na : Int)))), (13, .int .i64 i), (12, .int .i64 (na : Int)), (0, .slice la na ca), (1, .slice lb nb cb)] w1 (by kernel_rfl) ?_
      by_cases fk2 : i < (na : Int)
      · skip
        refine J.head (.bool true) (congrArg Value.bool (decide_eq_true fk2)) ?_
        refine J.run 10 K29_3 [(5, .int .i64 i), (13, .int .i64 i), (12, .int .i64 (na : Int)), (0, .slice la na ca), (1, .slice lb nb cb)] w1 (by kernel_rfl) ?_
        obtain ⟨p1, hp1, hc1⟩ := ha.at ByteArray.empty (i).toNat (by omega)
        obtain ⟨p2, hp2, hc2⟩ := hb.at ByteArray.empty (i).toNat (by omega)
        refine J.drawStill S1 9 Tryd.mixed (by kernel_rfl) (by kernel_rfl) (by kernel_rfl) ?_
        intro w2 S2
        refine SL.ok (by decide) (OK.run 16 (.slice la na ca) (by kernel_rfl)) ?_
        refine SL.ok (by decide) (OK.run 17 (.int .i64 i) (by kernel_rfl)) ?_
        refine SL.ok (by decide) (OK.index 18 33 1 la p1 na (i).toNat i (p1.add (i).toNat) (by kernel_rfl) (by kernel_rfl) hp1 (by omega) (by omega) (by rw [Nat.mul_one])) ?_
        refine SL.ok (by decide) (OK.ldCell 19 9 (p1.add (i).toNat) (.string (xa.getD (i).toNat ByteArray.empty)) (by kernel_rfl) (by kernel_rfl) (S2.cell hc1)) ?_
        refine SL.ok (by decide) (OK.run 20 (.slice lb nb cb) (by kernel_rfl)) ?_
        refine SL.ok (by decide) (OK.run 21 (.int .i64 i) (by kernel_rfl)) ?_
        refine SL.ok (by decide) (OK.index 22 33 1 lb p2 nb (i).toNat i (p2.add (i).toNat) (by kernel_rfl) (by kernel_rfl) hp2 (by omega) (by omega) (by rw [Nat.mul_one])) ?_
        refine SL.ok (by decide) (OK.ldCell 23 9 (p2.add (i).toNat) (.string (xb.getD (i).toNat ByteArray.empty)) (by kernel_rfl) (by kernel_rfl) (S2.cell hc2)) ?_
        refine SL.ok (by decide) (OK.run 24 (.bool (!((xa.getD (i).toNat ByteArray.empty).toList == (xb.getD (i).toNat ByteArray.empty).toList))) (by kernel_rfl)) ?_
        refine SL.done ?_
        refine TL.done (by kernel_rfl) ?_
        refine J.run 0 (rRest K29_3) [(24, .bool (!((xa.getD (i).toNat ByteArray.empty).toList == (xb.getD (i).toNat ByteArray.empty).toList))), (13, .int .i64 i), (12, .int .i64 (na : Int)), (0, .slice la na ca), (1, .slice lb nb cb)] w2 (by kernel_rfl) ?_
        rcases Bool.eq_false_or_eq_true (!((xa.getD (i).toNat ByteArray.empty).toList == (xb.getD (i).toNat ByteArray.empty).toList)) with fk3 | fk3
        · skip
          refine J.head (.bool true) (congrArg Value.bool fk3) ?_
          refine J.run 5 K29_4 [(4, .bool false)] w2 (by kernel_rfl) ?_
          refine J.ret Tryd.f29 [.bool false] Tryd.func29 ⟨by kernel_rfl, trivial⟩ ?_
          refine hR _ _ ?_
          exact ⟨congrArg Value.bool (eqTs_bad (j := i.toNat) (by omega) (by unfold eqT; first | exact fk3 | simpa using fk3)).symm, S2.nil⟩
        · skip
          refine J.head (.bool false) (congrArg Value.bool fk3) ?_
          refine J.run 5 K29_5 [(25, .int .i64 (IntKind.wrap .i64 (i + 1))), (12, .int .i64 (na : Int)), (0, .slice la na ca), (1, .slice lb nb cb)] w2 (by kernel_rfl) ?_
          refine J.head (.int .i64 (i + 1)) (congrArg (Value.int .i64) (IntWalk.i64_in _ (by omega))) ?_
          refine J.run 3 K29_1 [(13, .int .i64 (i + 1)), (12, .int .i64 (na : Int)), (0, .slice la na ca), (1, .slice lb nb cb)] w2 (by kernel_rfl) ?_
          refine J.run 0 K29_1 [(13, .int .i64 (i + 1)), (12, .int .i64 (na : Int)), (0, .slice la na ca), (1, .slice lb nb cb)] w2 (by kernel_rfl) ?_
          exact ih1 _ (show ((na : Int) - (i + 1)).toNat < mm1 from by omega) (i + 1) w2 (by omega) (by omega) (str_step (q := fun j => eqT (xa.getD j ByteArray.empty) (xb.getD j ByteArray.empty) = true) h0 hq (by unfold eqT; first | exact fk3 | simpa using fk3)) S2 rfl
      · skip
        refine J.head (.bool false) (congrArg Value.bool (decide_eq_false fk2)) ?_
        refine J.run 6 K29_6 [(4, .bool true)] w1 (by kernel_rfl) ?_
        refine J.ret Tryd.f29 [.bool true] Tryd.func29 ⟨by kernel_rfl, trivial⟩ ?_
        refine hR _ _ ?_
        exact ⟨congrArg Value.bool (eqTs_yes (by omega) fun j hj => hq j (by omega)).symm, S1.nil⟩
    exact L29_1 _ 0 w (by omega) (by omega) (by intro j hj; simp at hj) S0 rfl
  · skip
    refine J.head (.bool true) (congrArg Value.bool (bne_iff_ne.2 fk1)) ?_
    refine J.run 5 K29_7 [(4, .bool false)] w (by kernel_rfl) ?_
    refine J.ret Tryd.f29 [.bool false] Tryd.func29 ⟨by kernel_rfl, trivial⟩ ?_
    refine hR _ _ ?_
    exact ⟨congrArg Value.bool (eqTs_no (by omega)).symm, S0.nil⟩

def rowsT : List Kw := [⟨(⟨#[99, 111, 110, 115, 116]⟩ : ByteArray), 0, 1, 0⟩, ⟨(⟨#[97, 100, 100]⟩ : ByteArray), 2, 0, 0⟩, ⟨(⟨#[115, 117, 98]⟩ : ByteArray), 2, 0, 0⟩, ⟨(⟨#[109, 117, 108]⟩ : ByteArray), 2, 0, 0⟩, ⟨(⟨#[100, 105, 118]⟩ : ByteArray), 2, 0, 0⟩, ⟨(⟨#[110, 101, 103]⟩ : ByteArray), 1, 0, 0⟩, ⟨(⟨#[109, 105, 110]⟩ : ByteArray), 2, 0, 0⟩, ⟨(⟨#[109, 97, 120]⟩ : ByteArray), 2, 0, 0⟩, ⟨(⟨#[108, 105, 109, 105, 116]⟩ : ByteArray), 1, 2, 0⟩, ⟨(⟨#[99, 111, 110, 118, 101, 114, 116]⟩ : ByteArray), 1, 0, 0⟩, ⟨(⟨#[99, 117, 114, 118, 101]⟩ : ByteArray), 1, 0, 1⟩, ⟨(⟨#[109, 97, 112]⟩ : ByteArray), 2, 0, 2⟩, ⟨(⟨#[100, 101, 108, 97, 121]⟩ : ByteArray), 1, 1, 0⟩, ⟨(⟨#[108, 97, 103]⟩ : ByteArray), 1, 1, 0⟩, ⟨(⟨#[115, 119, 105, 116, 99, 104]⟩ : ByteArray), 3, 0, 0⟩, ⟨(⟨#[108, 101, 115, 115]⟩ : ByteArray), 2, 0, 0⟩, ⟨(⟨#[101, 113, 117, 97, 108]⟩ : ByteArray), 2, 0, 0⟩, ⟨(⟨#[97, 110, 100]⟩ : ByteArray), 2, 0, 0⟩, ⟨(⟨#[111, 114]⟩ : ByteArray), 2, 0, 0⟩, ⟨(⟨#[110, 111, 116]⟩ : ByteArray), 1, 0, 0⟩, ⟨(⟨#[104, 121, 115, 116, 101, 114, 101, 115, 105, 115]⟩ : ByteArray), 1, 2, 0⟩]
def kindsL : List ByteArray := [(⟨#[99, 111, 110, 115, 116]⟩ : ByteArray), (⟨#[97, 100, 100]⟩ : ByteArray), (⟨#[115, 117, 98]⟩ : ByteArray), (⟨#[109, 117, 108]⟩ : ByteArray), (⟨#[100, 105, 118]⟩ : ByteArray), (⟨#[110, 101, 103]⟩ : ByteArray), (⟨#[109, 105, 110]⟩ : ByteArray), (⟨#[109, 97, 120]⟩ : ByteArray), (⟨#[108, 105, 109, 105, 116]⟩ : ByteArray), (⟨#[99, 111, 110, 118, 101, 114, 116]⟩ : ByteArray), (⟨#[99, 117, 114, 118, 101]⟩ : ByteArray), (⟨#[109, 97, 112]⟩ : ByteArray), (⟨#[100, 101, 108, 97, 121]⟩ : ByteArray), (⟨#[108, 97, 103]⟩ : ByteArray), (⟨#[115, 119, 105, 116, 99, 104]⟩ : ByteArray), (⟨#[108, 101, 115, 115]⟩ : ByteArray), (⟨#[101, 113, 117, 97, 108]⟩ : ByteArray), (⟨#[97, 110, 100]⟩ : ByteArray), (⟨#[111, 114]⟩ : ByteArray), (⟨#[110, 111, 116]⟩ : ByteArray), (⟨#[104, 121, 115, 116, 101, 114, 101, 115, 105, 115]⟩ : ByteArray)]
def resL : List ByteArray := [(⟨#[116, 121, 112, 101]⟩ : ByteArray), (⟨#[105, 110]⟩ : ByteArray), (⟨#[111, 117, 116]⟩ : ByteArray), (⟨#[98, 108, 111, 99, 107]⟩ : ByteArray), (⟨#[117, 110, 115, 105, 103, 110, 101, 100]⟩ : ByteArray), (⟨#[115, 105, 103, 110, 101, 100]⟩ : ByteArray), (⟨#[100, 105, 97, 103, 114, 97, 109]⟩ : ByteArray)]
def kw0 : Kw := ⟨ByteArray.empty, 0, 0, 0⟩
def kindIx (s : ByteArray) : Int := indexF (fun r : Kw => eqT r.gname s) rowsT
def kA (s : ByteArray) : Int := if 0 ≤ kindIx s then (rowsT.getD (kindIx s).toNat kw0).garguments else 0
def kN (s : ByteArray) : Int := if 0 ≤ kindIx s then (rowsT.getD (kindIx s).toNat kw0).gnumbers else 0
def kT (s : ByteArray) : Int := if 0 ≤ kindIx s then (rowsT.getD (kindIx s).toNat kw0).gtable else 0
def kO (s : ByteArray) : Bool := decide (0 ≤ kindIx s)
theorem kind_some {s : ByteArray} {i : Nat} (hi : i < 21) (h1 : ∀ j, j < i → eqT (rowsT.getD j kw0).gname s = false) (h2 : eqT (rowsT.getD i kw0).gname s = true) : kA s = (rowsT.getD i kw0).garguments ∧ kN s = (rowsT.getD i kw0).gnumbers ∧ kT s = (rowsT.getD i kw0).gtable ∧ kO s = true := by
  have e : kindIx s = (i : Int) := indexF_some kw0 i (by exact hi) h1 h2
  unfold kA kN kT kO; rw [e, if_pos (by omega), if_pos (by omega), if_pos (by omega), Int.toNat_natCast]
  exact ⟨rfl, rfl, rfl, decide_eq_true (by omega)⟩
theorem kind_none {s : ByteArray} (h1 : ∀ j, j < 21 → eqT (rowsT.getD j kw0).gname s = false) : kA s = 0 ∧ kN s = 0 ∧ kT s = 0 ∧ kO s = false := by
  have e : kindIx s = -1 := indexF_none kw0 (fun j hj => h1 j hj)
  unfold kA kN kT kO; rw [e]; exact ⟨rfl, rfl, rfl, rfl⟩
theorem kinds_names : rowsT.map (fun r => r.gname) = kindsL := by rfl
theorem kinds_at (j : Nat) (hj : j < 21) : (rowsT.getD j kw0).gname = kindsL.getD j ByteArray.empty := by
  rw [← kinds_names, List.getD_eq_getElem?_getD, List.getD_eq_getElem?_getD, List.getElem?_map, List.getElem?_eq_getElem (show j < rowsT.length from hj)]; rfl
theorem kind_out {s : ByteArray} (h : ∀ x ∈ kindsL, eqT s x = false) : kA s = 0 ∧ kN s = 0 ∧ kT s = 0 ∧ kO s = false := by
  refine kind_none fun j hj => ?_
  rw [kinds_at j hj, eqT_comm]
  exact h _ (by rw [List.getD_eq_getElem?_getD, List.getElem?_eq_getElem (show j < kindsL.length from hj)]; exact List.getElem_mem _)
theorem eqT_eq {a b : ByteArray} (h : eqT a b = true) : a = b := by unfold eqT at h; rw [beq_ls, beq_iff_eq] at h; exact ls_inj h
theorem kO_any (s : ByteArray) : kO s = kindsL.any (eqT s) := by
  unfold kO kindIx
  rw [← kinds_names, List.any_map]
  rw [show ((eqT s) ∘ fun r : Kw => r.gname) = fun r : Kw => eqT r.gname s from funext fun r => eqT_comm _ _]
  exact indexF_nonneg
theorem any_no_cons {α : Type} {p : α → Bool} {x : α} {l : List α} (h : p x = false) (h2 : l.any p = false) : (x :: l).any p = false := by rw [List.any_cons, h, h2]; rfl
def resB (s : ByteArray) : Bool := kindsL.any (eqT s) || resL.any (eqT s)
def nameB (s : ByteArray) : Bool := decide (s.size ≠ 0) && decide (s.size ≤ 24) && letB (byteAt s 0) && decide ((runL innB (ls s) : Int) = (s.size : Int)) && !resB s
theorem name_no {s : ByteArray} (h : s.size = 0 ∨ 24 < s.size ∨ letB (byteAt s 0) = false ∨ ¬ (runL innB (ls s) : Int) = (s.size : Int)) : nameB s = false := by
  unfold nameB
  rcases h with h | h | h | h
  · rw [decide_eq_false (show ¬ s.size ≠ 0 by omega)]; rfl
  · rw [decide_eq_false (show ¬ s.size ≤ 24 by omega)]; simp
  · rw [h]; simp
  · rw [decide_eq_false h]; simp
theorem name_yes {s : ByteArray} (h : s.size ≠ 0) (h1 : s.size ≤ 24) (h2 : letB (byteAt s 0) = true) (h3 : (runL innB (ls s) : Int) = (s.size : Int)) : nameB s = !resB s := by
  unfold nameB; rw [decide_eq_true h, decide_eq_true h1, h2, decide_eq_true h3]; rfl
def numX (s : ByteArray) : Int := if parE s = 0 ∧ -1099511627776 ≤ parX s ∧ parX s ≤ 1099511627776 then parX s else 0
def numR (s : ByteArray) : Int := if parE s = 0 then (if -1099511627776 ≤ parX s ∧ parX s ≤ 1099511627776 then 0 else 2) else parE s
theorem take_kinds {l : List ByteArray} {i : Int} (h0 : 0 ≤ i) (hi : i < 21) (hl : l = kindsL.take i.toNat) : l ++ [(rowsT.getD i.toNat kw0).gname] = kindsL.take (i + 1).toNat := by
  rw [hl, kinds_at i.toNat (by omega), show (i + 1).toNat = i.toNat + 1 by omega, List.take_succ_eq_append_getElem (show i.toNat < kindsL.length by show i.toNat < 21; omega), List.getD_eq_getElem?_getD, List.getElem?_eq_getElem (show i.toNat < kindsL.length by show i.toNat < 21; omega)]; rfl
theorem hb45 : HasBody Tryd.prog 45 := fun _ _ => by kernel_rfl
noncomputable def K45_0 : List Item := adv 27 [] (bodyOf Tryd.f45)
noncomputable def K45_1 : List Item := adv 2 [] (popK K45_0)
set_option maxRecDepth 20000 in
set_option maxHeartbeats 20000000 in
theorem rows_any  (w : World) : Ret Tryd.prog 45 #[] w (fun v w' => ∃ a cap, v = .slice a (rowsT).length cap ∧ Sep w [rowOf kwE a cap 72 4 rowsT] w') := by
  have S0 := Sep.refl w
  refine Ret.named fun R hR => ?_
  refine Ret.of_J (N := 23) [] Tryd.func45 rfl rfl (Nat.le_of_ble_eq_true (by kernel_rfl)) (by kernel_rfl) ?_
  refine J.run 27 K45_0 [(21, .agg #[.string ⟨#[104, 121, 115, 116, 101, 114, 101, 115, 105, 115]⟩, .int .i64 1, .int .i64 2, .int .i64 0]), (20, .agg #[.string ⟨#[110, 111, 116]⟩, .int .i64 1, .int .i64 0, .int .i64 0]), (19, .agg #[.string ⟨#[111, 114]⟩, .int .i64 2, .int .i64 0, .int .i64 0]), (18, .agg #[.string ⟨#[97, 110, 100]⟩, .int .i64 2, .int .i64 0, .int .i64 0]), (17, .agg #[.string ⟨#[101, 113, 117, 97, 108]⟩, .int .i64 2, .int .i64 0, .int .i64 0]), (16, .agg #[.string ⟨#[108, 101, 115, 115]⟩, .int .i64 2, .int .i64 0, .int .i64 0]), (15, .agg #[.string ⟨#[115, 119, 105, 116, 99, 104]⟩, .int .i64 3, .int .i64 0, .int .i64 0]), (14, .agg #[.string ⟨#[108, 97, 103]⟩, .int .i64 1, .int .i64 1, .int .i64 0]), (13, .agg #[.string ⟨#[100, 101, 108, 97, 121]⟩, .int .i64 1, .int .i64 1, .int .i64 0]), (12, .agg #[.string ⟨#[109, 97, 112]⟩, .int .i64 2, .int .i64 0, .int .i64 2]), (11, .agg #[.string ⟨#[99, 117, 114, 118, 101]⟩, .int .i64 1, .int .i64 0, .int .i64 1]), (10, .agg #[.string ⟨#[99, 111, 110, 118, 101, 114, 116]⟩, .int .i64 1, .int .i64 0, .int .i64 0]), (9, .agg #[.string ⟨#[108, 105, 109, 105, 116]⟩, .int .i64 1, .int .i64 2, .int .i64 0]), (8, .agg #[.string ⟨#[109, 97, 120]⟩, .int .i64 2, .int .i64 0, .int .i64 0]), (7, .agg #[.string ⟨#[109, 105, 110]⟩, .int .i64 2, .int .i64 0, .int .i64 0]), (6, .agg #[.string ⟨#[110, 101, 103]⟩, .int .i64 1, .int .i64 0, .int .i64 0]), (5, .agg #[.string ⟨#[100, 105, 118]⟩, .int .i64 2, .int .i64 0, .int .i64 0]), (4, .agg #[.string ⟨#[109, 117, 108]⟩, .int .i64 2, .int .i64 0, .int .i64 0]), (3, .agg #[.string ⟨#[115, 117, 98]⟩, .int .i64 2, .int .i64 0, .int .i64 0]), (2, .agg #[.string ⟨#[97, 100, 100]⟩, .int .i64 2, .int .i64 0, .int .i64 0]), (1, .agg #[.string ⟨#[99, 111, 110, 115, 116]⟩, .int .i64 0, .int .i64 1, .int .i64 0])] w (by kernel_rfl) ?_
  refine J.newSlice S0 22 21 [.string ⟨#[99, 111, 110, 115, 116]⟩, .int .i64 0, .int .i64 1, .int .i64 0, .string ⟨#[97, 100, 100]⟩, .int .i64 2, .int .i64 0, .int .i64 0, .string ⟨#[115, 117, 98]⟩, .int .i64 2, .int .i64 0, .int .i64 0, .string ⟨#[109, 117, 108]⟩, .int .i64 2, .int .i64 0, .int .i64 0, .string ⟨#[100, 105, 118]⟩, .int .i64 2, .int .i64 0, .int .i64 0, .string ⟨#[110, 101, 103]⟩, .int .i64 1, .int .i64 0, .int .i64 0, .string ⟨#[109, 105, 110]⟩, .int .i64 2, .int .i64 0, .int .i64 0, .string ⟨#[109, 97, 120]⟩, .int .i64 2, .int .i64 0, .int .i64 0, .string ⟨#[108, 105, 109, 105, 116]⟩, .int .i64 1, .int .i64 2, .int .i64 0, .string ⟨#[99, 111, 110, 118, 101, 114, 116]⟩, .int .i64 1, .int .i64 0, .int .i64 0, .string ⟨#[99, 117, 114, 118, 101]⟩, .int .i64 1, .int .i64 0, .int .i64 1, .string ⟨#[109, 97, 112]⟩, .int .i64 2, .int .i64 0, .int .i64 2, .string ⟨#[100, 101, 108, 97, 121]⟩, .int .i64 1, .int .i64 1, .int .i64 0, .string ⟨#[108, 97, 103]⟩, .int .i64 1, .int .i64 1, .int .i64 0, .string ⟨#[115, 119, 105, 116, 99, 104]⟩, .int .i64 3, .int .i64 0, .int .i64 0, .string ⟨#[108, 101, 115, 115]⟩, .int .i64 2, .int .i64 0, .int .i64 0, .string ⟨#[101, 113, 117, 97, 108]⟩, .int .i64 2, .int .i64 0, .int .i64 0, .string ⟨#[97, 110, 100]⟩, .int .i64 2, .int .i64 0, .int .i64 0, .string ⟨#[111, 114]⟩, .int .i64 2, .int .i64 0, .int .i64 0, .string ⟨#[110, 111, 116]⟩, .int .i64 1, .int .i64 0, .int .i64 0, .string ⟨#[104, 121, 115, 116, 101, 114, 101, 115, 105, 115]⟩, .int .i64 1, .int .i64 2, .int .i64 0] 72 (by kernel_rfl) ?_
  intro b1 w1 S1
  refine J.run 2 K45_1 [(0, .slice (some ⟨b1, 0, none⟩) 21 21)] w1 (by kernel_rfl) ?_
  refine J.ret Tryd.f45 [.slice (some ⟨b1, 0, none⟩) 21 21] Tryd.func45 ⟨by kernel_rfl, trivial⟩ ?_
  refine hR _ _ ?_
  exact ⟨_, _, rfl, (box_row kwE S1 0 rowsT 4 rfl (by kernel_rfl) (by kernel_rfl) (by decide) (.inr trivial)).pick 0 rfl⟩

theorem hb18 : HasBody Tryd.prog 18 := fun _ _ => by kernel_rfl
noncomputable def K18_0 : List Item := adv 10 [] (bodyOf Tryd.f18)
noncomputable def K18_1 : List Item := adv 5 [] (popK K18_0)
noncomputable def K18_2 : List Item := adv 5 [] K18_1
noncomputable def K18_3 : List Item := adv 6 [true] K18_2
noncomputable def K18_4 : List Item := adv 4 [] (popK (popK (popK (popK K18_3))))
noncomputable def K18_5 : List Item := adv 3 [] (popK K18_4)
noncomputable def K18_6 : List Item := adv 2 [true] K18_5
noncomputable def K18_7 : List Item := adv 5 [false] K18_5
noncomputable def K18_8 : List Item := adv 9 [false] K18_2
set_option maxRecDepth 20000 in
set_option maxHeartbeats 20000000 in
theorem kind_any (s : ByteArray) (w : World) : Ret Tryd.prog 18 #[.string s] w (fun v w' => v = .tuple #[.int .i64 (kA s), .int .i64 (kN s), .int .i64 (kT s), .bool (kO s)] ∧ Sep w [] w') := by
  have S0 := Sep.refl w
  refine Ret.named fun R hR => ?_
  refine Ret.of_J (N := 25) [(0, .string s)] Tryd.func18 rfl rfl (Nat.le_of_ble_eq_true (by kernel_rfl)) (by kernel_rfl) ?_
  have hr21 : rowsT.length = 21 := rfl
  refine J.run 10 K18_0 [(0, .string s)] w (by kernel_rfl) ?_
  refine J.callF 8 45 #[] hb45 (by kernel_rfl) (rows_any  _) ?_
  rintro _ w1 ⟨ra1, rc1, rfl, T1⟩
  have S1 : Sep w [rowOf kwE ra1 rc1 72 4 rowsT] w1 := S0.trans T1
  clear T1
  refine J.run 5 K18_1 [(10, .int .i64 0), (9, .int .i64 (rowsT.length : Int)), (8, .slice ra1 rowsT.length rc1), (0, .string s)] w1 (by kernel_rfl) ?_
  have L18_1 : ∀ (mm_ : Nat) (i : Int) (w2 : World), (0 ≤ i) → (i ≤ 21) → (∀ j, j < (i).toNat → eqT (rowsT.getD j kw0).gname s = false) → Sep w [rowOf kwE ra1 rc1 72 4 rowsT] w2 → (21 - i).toNat = mm_ → J Tryd.prog 18 25 R K18_1 [(10, .int .i64 i), (9, .int .i64 (rowsT.length : Int)), (8, .slice ra1 rowsT.length rc1), (0, .string s)] w2 := by
    intro mm1
    induction mm1 using Nat.strongRecOn with
    | _ mm1 ih1 =>
    intro i w2 h0 h1 hq S2 hm1
    refine J.run 5 K18_2 [(11, .bool (decide (i < (rowsT.length : Int)))), (10, .int .i64 i), (9, .int .i64 (rowsT.length : Int)), (8, .slice ra1 rowsT.length rc1), (0, .string s)] w2 (by kernel_rfl) ?_
    by_cases fk1 : i < (rowsT.length : Int)
    · skip
      refine J.head (.bool true) (congrArg Value.bool (decide_eq_true fk1)) ?_
      refine J.run 6 K18_3 [(10, .int .i64 i), (9, .int .i64 (rowsT.length : Int)), (8, .slice ra1 rowsT.length rc1), (0, .string s)] w2 (by kernel_rfl) ?_
      obtain ⟨p1, hp1, hc1⟩ := (rowOf_recs (S2.nth 0 rfl) _ rfl (fun _ => rfl) (by decide)).at (⟨ByteArray.empty, 0, 0, 0⟩ : Kw) (i).toNat (by omega)
      refine J.ok (OK.index 12 69 4 ra1 p1 rowsT.length (i).toNat i (p1.add ((i).toNat * 4)) (by kernel_rfl) (by kernel_rfl) hp1 (by omega) (by omega) rfl) ?_
      refine J.ok (OK.ldCells 13 72 (p1.add ((i).toNat * 4)) [.string ((rowsT.getD (i).toNat (⟨ByteArray.empty, 0, 0, 0⟩ : Kw)).gname), .int .i64 ((rowsT.getD (i).toNat (⟨ByteArray.empty, 0, 0, 0⟩ : Kw)).garguments), .int .i64 ((rowsT.getD (i).toNat (⟨ByteArray.empty, 0, 0, 0⟩ : Kw)).gnumbers), .int .i64 ((rowsT.getD (i).toNat (⟨ByteArray.empty, 0, 0, 0⟩ : Kw)).gtable)] (by kernel_rfl) (by kernel_rfl) (by kernel_rfl) hc1) ?_
      refine J.new S2 7 [.string ByteArray.empty, .int .i64 0, .int .i64 0, .int .i64 0] 72 (by kernel_rfl) ?_
      intro b1 w3 S3
      refine J.stBox S3 0 72 0 (.agg #[.string ((rowsT.getD (i).toNat (⟨ByteArray.empty, 0, 0, 0⟩ : Kw)).gname), .int .i64 ((rowsT.getD (i).toNat (⟨ByteArray.empty, 0, 0, 0⟩ : Kw)).garguments), .int .i64 ((rowsT.getD (i).toNat (⟨ByteArray.empty, 0, 0, 0⟩ : Kw)).gnumbers), .int .i64 ((rowsT.getD (i).toNat (⟨ByteArray.empty, 0, 0, 0⟩ : Kw)).gtable)]) [.string ((rowsT.getD (i).toNat (⟨ByteArray.empty, 0, 0, 0⟩ : Kw)).gname), .int .i64 ((rowsT.getD (i).toNat (⟨ByteArray.empty, 0, 0, 0⟩ : Kw)).garguments), .int .i64 ((rowsT.getD (i).toNat (⟨ByteArray.empty, 0, 0, 0⟩ : Kw)).gnumbers), .int .i64 ((rowsT.getD (i).toNat (⟨ByteArray.empty, 0, 0, 0⟩ : Kw)).gtable)] [box b1 [.string ((rowsT.getD (i).toNat (⟨ByteArray.empty, 0, 0, 0⟩ : Kw)).gname), .int .i64 ((rowsT.getD (i).toNat (⟨ByteArray.empty, 0, 0, 0⟩ : Kw)).garguments), .int .i64 ((rowsT.getD (i).toNat (⟨ByteArray.empty, 0, 0, 0⟩ : Kw)).gnumbers), .int .i64 ((rowsT.getD (i).toNat (⟨ByteArray.empty, 0, 0, 0⟩ : Kw)).gtable)] 72, rowOf kwE ra1 rc1 72 4 rowsT] (by kernel_rfl) rfl (by kernel_rfl) (by kernel_rfl) rfl ?_
      intro w4 S4
      refine J.run 4 K18_4 [(14, .pointer (some ⟨b1, 0, none⟩)), (7, .pointer (some ⟨b1, 0, none⟩)), (10, .int .i64 i), (9, .int .i64 (rowsT.length : Int)), (8, .slice ra1 rowsT.length rc1), (0, .string s)] w4 (by kernel_rfl) ?_
      refine J.ok (OK.ldBox S4 0 15 9 0 (.string ((rowsT.getD (i).toNat (⟨ByteArray.empty, 0, 0, 0⟩ : Kw)).gname)) (by kernel_rfl) rfl (by kernel_rfl)) ?_
      refine J.run 3 K18_5 [(17, .bool (((rowsT.getD (i).toNat (⟨ByteArray.empty, 0, 0, 0⟩ : Kw)).gname).toList == s.toList)), (7, .pointer (some ⟨b1, 0, none⟩)), (10, .int .i64 i), (9, .int .i64 (rowsT.length : Int)), (8, .slice ra1 rowsT.length rc1), (0, .string s)] w4 (by kernel_rfl) ?_
      rcases Bool.eq_false_or_eq_true (((rowsT.getD (i).toNat (⟨ByteArray.empty, 0, 0, 0⟩ : Kw)).gname).toList == s.toList) with fk2 | fk2
      · skip
        refine J.head (.bool true) (congrArg Value.bool fk2) ?_
        refine J.run 2 K18_6 [(7, .pointer (some ⟨b1, 0, none⟩))] w4 (by kernel_rfl) ?_
        refine J.drawStill S4 10 Tryd.mixed (by kernel_rfl) (by kernel_rfl) (by kernel_rfl) ?_
        intro w5 S5
        refine SL.ok (by decide) (OK.run 18 (.pointer (some ⟨b1, 1, none⟩)) (by kernel_rfl)) ?_
        refine SL.ok (by decide) (OK.ldBox S5 0 19 3 1 (.int .i64 ((rowsT.getD (i).toNat (⟨ByteArray.empty, 0, 0, 0⟩ : Kw)).garguments)) (by kernel_rfl) rfl (by kernel_rfl)) ?_
        refine SL.ok (by decide) (OK.run 20 (.pointer (some ⟨b1, 2, none⟩)) (by kernel_rfl)) ?_
        refine SL.ok (by decide) (OK.ldBox S5 0 21 3 2 (.int .i64 ((rowsT.getD (i).toNat (⟨ByteArray.empty, 0, 0, 0⟩ : Kw)).gnumbers)) (by kernel_rfl) rfl (by kernel_rfl)) ?_
        refine SL.ok (by decide) (OK.run 22 (.pointer (some ⟨b1, 3, none⟩)) (by kernel_rfl)) ?_
        refine SL.ok (by decide) (OK.ldBox S5 0 23 3 3 (.int .i64 ((rowsT.getD (i).toNat (⟨ByteArray.empty, 0, 0, 0⟩ : Kw)).gtable)) (by kernel_rfl) rfl (by kernel_rfl)) ?_
        refine SL.ok (by decide) (OK.run 2 (.int .i64 ((rowsT.getD (i).toNat (⟨ByteArray.empty, 0, 0, 0⟩ : Kw)).garguments)) (by kernel_rfl)) ?_
        refine SL.ok (by decide) (OK.run 3 (.int .i64 ((rowsT.getD (i).toNat (⟨ByteArray.empty, 0, 0, 0⟩ : Kw)).gnumbers)) (by kernel_rfl)) ?_
        refine SL.ok (by decide) (OK.run 4 (.int .i64 ((rowsT.getD (i).toNat (⟨ByteArray.empty, 0, 0, 0⟩ : Kw)).gtable)) (by kernel_rfl)) ?_
        refine SL.ok (by decide) (OK.run 5 (.bool true) (by kernel_rfl)) ?_
        refine SL.done ?_
        refine TL.done (by kernel_rfl) ?_
        refine J.run 0 (rRest K18_6) [(5, .bool true), (4, .int .i64 ((rowsT.getD (i).toNat (⟨ByteArray.empty, 0, 0, 0⟩ : Kw)).gtable)), (3, .int .i64 ((rowsT.getD (i).toNat (⟨ByteArray.empty, 0, 0, 0⟩ : Kw)).gnumbers)), (2, .int .i64 ((rowsT.getD (i).toNat (⟨ByteArray.empty, 0, 0, 0⟩ : Kw)).garguments))] w5 (by kernel_rfl) ?_
        refine J.ret Tryd.f18 [.int .i64 ((rowsT.getD (i).toNat (⟨ByteArray.empty, 0, 0, 0⟩ : Kw)).garguments), .int .i64 ((rowsT.getD (i).toNat (⟨ByteArray.empty, 0, 0, 0⟩ : Kw)).gnumbers), .int .i64 ((rowsT.getD (i).toNat (⟨ByteArray.empty, 0, 0, 0⟩ : Kw)).gtable), .bool true] Tryd.func18 ⟨by kernel_rfl, by kernel_rfl, by kernel_rfl, by kernel_rfl, trivial⟩ ?_
        refine hR _ _ ?_
        obtain ⟨e1, e2, e3, e4⟩ := kind_some (s := s) (i := i.toNat) (by omega) hq fk2
        exact ⟨by rw [e1, e2, e3, e4]; rfl, S5.nil⟩
      · skip
        refine J.head (.bool false) (congrArg Value.bool fk2) ?_
        refine J.run 5 K18_7 [(24, .int .i64 (IntKind.wrap .i64 (i + 1))), (9, .int .i64 (rowsT.length : Int)), (8, .slice ra1 rowsT.length rc1), (0, .string s)] w4 (by kernel_rfl) ?_
        refine J.head (.int .i64 (i + 1)) (congrArg (Value.int .i64) (IntWalk.i64_in _ (by omega))) ?_
        refine J.run 3 K18_1 [(10, .int .i64 (i + 1)), (9, .int .i64 (rowsT.length : Int)), (8, .slice ra1 rowsT.length rc1), (0, .string s)] w4 (by kernel_rfl) ?_
        have S6 : Sep w [rowOf kwE ra1 rc1 72 4 rowsT] w4 := S4.erase 0
        clear S4
        refine J.run 0 K18_1 [(10, .int .i64 (i + 1)), (9, .int .i64 (rowsT.length : Int)), (8, .slice ra1 rowsT.length rc1), (0, .string s)] w4 (by kernel_rfl) ?_
        exact ih1 _ (show (21 - (i + 1)).toNat < mm1 from by omega) (i + 1) w4 (by omega) (by omega) (dg_step (q := fun j => eqT (rowsT.getD j kw0).gname s = false) h0 hq fk2) S6 rfl
    · skip
      refine J.head (.bool false) (congrArg Value.bool (decide_eq_false fk1)) ?_
      refine J.run 9 K18_8 [(5, .bool false), (4, .int .i64 0), (3, .int .i64 0), (2, .int .i64 0)] w2 (by kernel_rfl) ?_
      refine J.ret Tryd.f18 [.int .i64 0, .int .i64 0, .int .i64 0, .bool false] Tryd.func18 ⟨by kernel_rfl, by kernel_rfl, by kernel_rfl, by kernel_rfl, trivial⟩ ?_
      refine hR _ _ ?_
      obtain ⟨e1, e2, e3, e4⟩ := kind_none (s := s) (fun j hj => hq j (by omega))
      exact ⟨by rw [e1, e2, e3, e4]; rfl, S2.nil⟩
  exact L18_1 _ 0 w1 (by omega) (by omega) (by intro j hj; simp at hj) S1 rfl

theorem hb17 : HasBody Tryd.prog 17 := fun _ _ => by kernel_rfl
noncomputable def K17_0 : List Item := adv 11 [] (bodyOf Tryd.f17)
noncomputable def K17_1 : List Item := adv 5 [] (popK K17_0)
noncomputable def K17_2 : List Item := adv 5 [] K17_1
noncomputable def K17_3 : List Item := adv 6 [true] K17_2
noncomputable def K17_4 : List Item := adv 4 [] (popK (popK (popK (popK K17_3))))
noncomputable def K17_5 : List Item := adv 5 [] (popK (popK (popK K17_4)))
noncomputable def K17_6 : List Item := adv 7 [false] K17_2
set_option maxRecDepth 20000 in
set_option maxHeartbeats 20000000 in
theorem kinds_any  (w : World) : Ret Tryd.prog 17 #[] w (fun v w' => ∃ a cap, v = .slice a (kindsL).length cap ∧ Sep w [rowOf (enc1 Value.string) a cap 9 1 kindsL] w') := by
  have S0 := Sep.refl w
  refine Ret.named fun R hR => ?_
  refine Ret.of_J (N := 17) [] Tryd.func17 rfl rfl (Nat.le_of_ble_eq_true (by kernel_rfl)) (by kernel_rfl) ?_
  have hr21 : rowsT.length = 21 := rfl
  refine J.run 11 K17_0 [(1, .slice none 0 0)] w (by kernel_rfl) ?_
  refine J.callF 4 45 #[] hb45 (by kernel_rfl) (rows_any  _) ?_
  rintro _ w1 ⟨ra1, rc1, rfl, T1⟩
  have S1 : Sep w [rowOf kwE ra1 rc1 72 4 rowsT] w1 := S0.trans T1
  clear T1
  refine J.run 5 K17_1 [(6, .int .i64 0), (5, .int .i64 (rowsT.length : Int)), (4, .slice ra1 rowsT.length rc1), (1, .slice none 0 0)] w1 (by kernel_rfl) ?_
  have S2 : Sep w [rowOf (enc1 Value.string) none 0 9 1 ([]), rowOf kwE ra1 rc1 72 4 rowsT] w1 := S1.nilRow 9 1
  have L17_1 : ∀ (mm_ : Nat) (ra : Option Addr) (rc : Nat) (l : List ByteArray) (i : Int) (w2 : World), (0 ≤ i) → (i ≤ 21) → (l = kindsL.take (i).toNat) → Sep w [rowOf (enc1 Value.string) ra rc 9 1 l, rowOf kwE ra1 rc1 72 4 rowsT] w2 → (21 - i).toNat = mm_ → J Tryd.prog 17 17 R K17_1 [(6, .int .i64 i), (5, .int .i64 (rowsT.length : Int)), (4, .slice ra1 rowsT.length rc1), (1, .slice ra l.length rc)] w2 := by
    intro mm1
    induction mm1 using Nat.strongRecOn with
    | _ mm1 ih1 =>
    intro ra rc l i w2 h0 h1 hl S3 hm1
    have hll : l.length ≤ 21 := by rw [hl, List.length_take]; omega
    refine J.run 5 K17_2 [(7, .bool (decide (i < (rowsT.length : Int)))), (6, .int .i64 i), (5, .int .i64 (rowsT.length : Int)), (4, .slice ra1 rowsT.length rc1), (1, .slice ra l.length rc)] w2 (by kernel_rfl) ?_
    by_cases fk1 : i < (rowsT.length : Int)
    · skip
      refine J.head (.bool true) (congrArg Value.bool (decide_eq_true fk1)) ?_
      refine J.run 6 K17_3 [(6, .int .i64 i), (5, .int .i64 (rowsT.length : Int)), (4, .slice ra1 rowsT.length rc1), (1, .slice ra l.length rc)] w2 (by kernel_rfl) ?_
      obtain ⟨p1, hp1, hc1⟩ := (rowOf_recs (S3.nth 1 rfl) _ rfl (fun _ => rfl) (by decide)).at (⟨ByteArray.empty, 0, 0, 0⟩ : Kw) (i).toNat (by omega)
      refine J.ok (OK.index 8 69 4 ra1 p1 rowsT.length (i).toNat i (p1.add ((i).toNat * 4)) (by kernel_rfl) (by kernel_rfl) hp1 (by omega) (by omega) rfl) ?_
      refine J.ok (OK.ldCells 9 72 (p1.add ((i).toNat * 4)) [.string ((rowsT.getD (i).toNat (⟨ByteArray.empty, 0, 0, 0⟩ : Kw)).gname), .int .i64 ((rowsT.getD (i).toNat (⟨ByteArray.empty, 0, 0, 0⟩ : Kw)).garguments), .int .i64 ((rowsT.getD (i).toNat (⟨ByteArray.empty, 0, 0, 0⟩ : Kw)).gnumbers), .int .i64 ((rowsT.getD (i).toNat (⟨ByteArray.empty, 0, 0, 0⟩ : Kw)).gtable)] (by kernel_rfl) (by kernel_rfl) (by kernel_rfl) hc1) ?_
      refine J.new S3 3 [.string ByteArray.empty, .int .i64 0, .int .i64 0, .int .i64 0] 72 (by kernel_rfl) ?_
      intro b1 w3 S4
      refine J.stBox S4 0 72 0 (.agg #[.string ((rowsT.getD (i).toNat (⟨ByteArray.empty, 0, 0, 0⟩ : Kw)).gname), .int .i64 ((rowsT.getD (i).toNat (⟨ByteArray.empty, 0, 0, 0⟩ : Kw)).garguments), .int .i64 ((rowsT.getD (i).toNat (⟨ByteArray.empty, 0, 0, 0⟩ : Kw)).gnumbers), .int .i64 ((rowsT.getD (i).toNat (⟨ByteArray.empty, 0, 0, 0⟩ : Kw)).gtable)]) [.string ((rowsT.getD (i).toNat (⟨ByteArray.empty, 0, 0, 0⟩ : Kw)).gname), .int .i64 ((rowsT.getD (i).toNat (⟨ByteArray.empty, 0, 0, 0⟩ : Kw)).garguments), .int .i64 ((rowsT.getD (i).toNat (⟨ByteArray.empty, 0, 0, 0⟩ : Kw)).gnumbers), .int .i64 ((rowsT.getD (i).toNat (⟨ByteArray.empty, 0, 0, 0⟩ : Kw)).gtable)] [box b1 [.string ((rowsT.getD (i).toNat (⟨ByteArray.empty, 0, 0, 0⟩ : Kw)).gname), .int .i64 ((rowsT.getD (i).toNat (⟨ByteArray.empty, 0, 0, 0⟩ : Kw)).garguments), .int .i64 ((rowsT.getD (i).toNat (⟨ByteArray.empty, 0, 0, 0⟩ : Kw)).gnumbers), .int .i64 ((rowsT.getD (i).toNat (⟨ByteArray.empty, 0, 0, 0⟩ : Kw)).gtable)] 72, rowOf (enc1 Value.string) ra rc 9 1 l, rowOf kwE ra1 rc1 72 4 rowsT] (by kernel_rfl) rfl (by kernel_rfl) (by kernel_rfl) rfl ?_
      intro w4 S5
      refine J.run 4 K17_4 [(11, .pointer (some ⟨b1, 0, none⟩)), (10, .slice ra l.length rc), (6, .int .i64 i), (5, .int .i64 (rowsT.length : Int)), (4, .slice ra1 rowsT.length rc1)] w4 (by kernel_rfl) ?_
      refine J.ok (OK.ldBox S5 0 12 9 0 (.string ((rowsT.getD (i).toNat (⟨ByteArray.empty, 0, 0, 0⟩ : Kw)).gname)) (by kernel_rfl) rfl (by kernel_rfl)) ?_
      refine J.newSlice S5 13 1 [.string ((rowsT.getD (i).toNat (⟨ByteArray.empty, 0, 0, 0⟩ : Kw)).gname)] 9 (by kernel_rfl) ?_
      intro b2 w5 S6
      refine J.append (enc1 Value.string) S6 2 l ((rowsT.getD (i).toNat (⟨ByteArray.empty, 0, 0, 0⟩ : Kw)).gname) 14 33 (.string ByteArray.empty) 16 ⟨b2, 0, none⟩ 1 rfl (by kernel_rfl) (by kernel_rfl) (by kernel_rfl) (by kernel_rfl) (by decide) (box_cells (S6.nth 0 rfl)) (by kernel_rfl) (by kernel_rfl) (⟨by omega, by omega⟩) ?_
      intro ra2 rc2 w6 S7
      replace S7 : Sep w [box b2 [.string ((rowsT.getD (i).toNat (⟨ByteArray.empty, 0, 0, 0⟩ : Kw)).gname)] 9, box b1 [.string ((rowsT.getD (i).toNat (⟨ByteArray.empty, 0, 0, 0⟩ : Kw)).gname), .int .i64 ((rowsT.getD (i).toNat (⟨ByteArray.empty, 0, 0, 0⟩ : Kw)).garguments), .int .i64 ((rowsT.getD (i).toNat (⟨ByteArray.empty, 0, 0, 0⟩ : Kw)).gnumbers), .int .i64 ((rowsT.getD (i).toNat (⟨ByteArray.empty, 0, 0, 0⟩ : Kw)).gtable)] 72, rowOf (enc1 Value.string) ra2 rc2 9 1 (l ++ [((rowsT.getD (i).toNat (⟨ByteArray.empty, 0, 0, 0⟩ : Kw)).gname)]), rowOf kwE ra1 rc1 72 4 rowsT] w6 := S7
      have S8 : Sep w [box b1 [.string ((rowsT.getD (i).toNat (⟨ByteArray.empty, 0, 0, 0⟩ : Kw)).gname), .int .i64 ((rowsT.getD (i).toNat (⟨ByteArray.empty, 0, 0, 0⟩ : Kw)).garguments), .int .i64 ((rowsT.getD (i).toNat (⟨ByteArray.empty, 0, 0, 0⟩ : Kw)).gnumbers), .int .i64 ((rowsT.getD (i).toNat (⟨ByteArray.empty, 0, 0, 0⟩ : Kw)).gtable)] 72, rowOf (enc1 Value.string) ra2 rc2 9 1 (l ++ [((rowsT.getD (i).toNat (⟨ByteArray.empty, 0, 0, 0⟩ : Kw)).gname)]), rowOf kwE ra1 rc1 72 4 rowsT] w6 := S7.erase 0
      clear S7
      refine J.run 5 K17_5 [(15, .int .i64 (IntKind.wrap .i64 (i + 1))), (1, .slice ra2 ((l ++ [((rowsT.getD (i).toNat (⟨ByteArray.empty, 0, 0, 0⟩ : Kw)).gname)]).length) rc2), (5, .int .i64 (rowsT.length : Int)), (4, .slice ra1 rowsT.length rc1)] w6 (by kernel_rfl) ?_
      refine J.head (.int .i64 (i + 1)) (congrArg (Value.int .i64) (IntWalk.i64_in _ (by omega))) ?_
      refine J.run 3 K17_1 [(6, .int .i64 (i + 1)), (1, .slice ra2 ((l ++ [((rowsT.getD (i).toNat (⟨ByteArray.empty, 0, 0, 0⟩ : Kw)).gname)]).length) rc2), (5, .int .i64 (rowsT.length : Int)), (4, .slice ra1 rowsT.length rc1)] w6 (by kernel_rfl) ?_
      have S9 : Sep w [rowOf (enc1 Value.string) ra2 rc2 9 1 (l ++ [((rowsT.getD (i).toNat (⟨ByteArray.empty, 0, 0, 0⟩ : Kw)).gname)]), rowOf kwE ra1 rc1 72 4 rowsT] w6 := S8.erase 0
      clear S8
      refine J.run 0 K17_1 [(6, .int .i64 (i + 1)), (5, .int .i64 (rowsT.length : Int)), (4, .slice ra1 rowsT.length rc1), (1, .slice ra2 ((l ++ [((rowsT.getD (i).toNat (⟨ByteArray.empty, 0, 0, 0⟩ : Kw)).gname)]).length) rc2)] w6 (by kernel_rfl) ?_
      exact ih1 _ (show (21 - (i + 1)).toNat < mm1 from by omega) ra2 rc2 (l ++ [((rowsT.getD (i).toNat (⟨ByteArray.empty, 0, 0, 0⟩ : Kw)).gname)]) (i + 1) w6 (by omega) (by omega) (take_kinds h0 (by omega) hl) S9 rfl
    · skip
      refine J.head (.bool false) (congrArg Value.bool (decide_eq_false fk1)) ?_
      refine J.run 7 K17_6 [(0, .slice ra l.length rc)] w2 (by kernel_rfl) ?_
      refine J.ret Tryd.f17 [.slice ra l.length rc] Tryd.func17 ⟨by kernel_rfl, trivial⟩ ?_
      refine hR _ _ ?_
      have e_ : l = kindsL := by rw [hl, show i = 21 by omega]; rfl
      subst e_
      exact ⟨_, _, rfl, S3.pick 0 rfl⟩
  exact L17_1 _ none 0 ([]) 0 w1 (by omega) (by omega) (rfl) S2 rfl

theorem hb30 : HasBody Tryd.prog 30 := fun _ _ => by kernel_rfl
noncomputable def K30_0 : List Item := adv 6 [] (bodyOf Tryd.f30)
noncomputable def K30_1 : List Item := adv 2 [] (popK K30_0)
set_option maxRecDepth 20000 in
set_option maxHeartbeats 20000000 in
theorem rkinds_any  (w : World) : Ret Tryd.prog 30 #[] w (fun v w' => ∃ a cap, v = .slice a (kindsL).length cap ∧ Sep w [rowOf (enc1 Value.string) a cap 9 1 kindsL] w') := by
  have S0 := Sep.refl w
  refine Ret.named fun R hR => ?_
  refine Ret.of_J (N := 2) [] Tryd.func30 rfl rfl (Nat.le_of_ble_eq_true (by kernel_rfl)) (by kernel_rfl) ?_
  refine J.run 6 K30_0 [] w (by kernel_rfl) ?_
  refine J.newSlice S0 1 21 [.string ⟨#[99, 111, 110, 115, 116]⟩, .string ⟨#[97, 100, 100]⟩, .string ⟨#[115, 117, 98]⟩, .string ⟨#[109, 117, 108]⟩, .string ⟨#[100, 105, 118]⟩, .string ⟨#[110, 101, 103]⟩, .string ⟨#[109, 105, 110]⟩, .string ⟨#[109, 97, 120]⟩, .string ⟨#[108, 105, 109, 105, 116]⟩, .string ⟨#[99, 111, 110, 118, 101, 114, 116]⟩, .string ⟨#[99, 117, 114, 118, 101]⟩, .string ⟨#[109, 97, 112]⟩, .string ⟨#[100, 101, 108, 97, 121]⟩, .string ⟨#[108, 97, 103]⟩, .string ⟨#[115, 119, 105, 116, 99, 104]⟩, .string ⟨#[108, 101, 115, 115]⟩, .string ⟨#[101, 113, 117, 97, 108]⟩, .string ⟨#[97, 110, 100]⟩, .string ⟨#[111, 114]⟩, .string ⟨#[110, 111, 116]⟩, .string ⟨#[104, 121, 115, 116, 101, 114, 101, 115, 105, 115]⟩] 9 (by kernel_rfl) ?_
  intro b1 w1 S1
  refine J.run 2 K30_1 [(0, .slice (some ⟨b1, 0, none⟩) 21 21)] w1 (by kernel_rfl) ?_
  refine J.ret Tryd.f30 [.slice (some ⟨b1, 0, none⟩) 21 21] Tryd.func30 ⟨by kernel_rfl, trivial⟩ ?_
  refine hR _ _ ?_
  exact ⟨_, _, rfl, (box_row (enc1 Value.string) S1 0 kindsL 1 rfl (by kernel_rfl) (by kernel_rfl) (by decide) (.inr trivial)).pick 0 rfl⟩

theorem hb27 : HasBody Tryd.prog 27 := fun _ _ => by kernel_rfl
noncomputable def K27_0 : List Item := adv 18 [] (bodyOf Tryd.f27)
noncomputable def K27_1 : List Item := adv 8 [true] K27_0
noncomputable def K27_2 : List Item := adv 7 [false] K27_0
noncomputable def K27_3 : List Item := adv 10 [true, true] K27_2
noncomputable def K27_4 : List Item := adv 6 [false] K27_2
noncomputable def K27_5 : List Item := adv 10 [true, true] K27_4
noncomputable def K27_6 : List Item := adv 6 [false] K27_4
noncomputable def K27_7 : List Item := adv 10 [true, true] K27_6
noncomputable def K27_8 : List Item := adv 6 [false] K27_6
noncomputable def K27_9 : List Item := adv 10 [true, true] K27_8
noncomputable def K27_10 : List Item := adv 6 [false] K27_8
noncomputable def K27_11 : List Item := adv 10 [true, true] K27_10
noncomputable def K27_12 : List Item := adv 6 [false] K27_10
noncomputable def K27_13 : List Item := adv 10 [true, true] K27_12
noncomputable def K27_14 : List Item := adv 6 [false] K27_12
noncomputable def K27_15 : List Item := adv 10 [true, true] K27_14
noncomputable def K27_16 : List Item := adv 6 [false] K27_14
noncomputable def K27_17 : List Item := adv 10 [true, true] K27_16
noncomputable def K27_18 : List Item := adv 6 [false] K27_16
noncomputable def K27_19 : List Item := adv 10 [true, true] K27_18
noncomputable def K27_20 : List Item := adv 5 [false] K27_18
noncomputable def K27_21 : List Item := adv 8 [true] K27_20
noncomputable def K27_22 : List Item := adv 7 [false] K27_20
noncomputable def K27_23 : List Item := adv 10 [true, true] K27_22
noncomputable def K27_24 : List Item := adv 6 [false] K27_22
noncomputable def K27_25 : List Item := adv 10 [true, true] K27_24
noncomputable def K27_26 : List Item := adv 5 [false] K27_24
noncomputable def K27_27 : List Item := adv 8 [true] K27_26
noncomputable def K27_28 : List Item := adv 7 [false] K27_26
noncomputable def K27_29 : List Item := adv 10 [true, true] K27_28
noncomputable def K27_30 : List Item := adv 5 [false] K27_28
noncomputable def K27_31 : List Item := adv 8 [true] K27_30
noncomputable def K27_32 : List Item := adv 6 [false] K27_30
noncomputable def K27_33 : List Item := adv 8 [true] K27_32
noncomputable def K27_34 : List Item := adv 6 [false] K27_32
noncomputable def K27_35 : List Item := adv 8 [true] K27_34
noncomputable def K27_36 : List Item := adv 7 [false] K27_34
noncomputable def K27_37 : List Item := adv 10 [true, true] K27_36
noncomputable def K27_38 : List Item := adv 5 [false] K27_36
noncomputable def K27_39 : List Item := adv 8 [true] K27_38
noncomputable def K27_40 : List Item := adv 6 [false] K27_38
noncomputable def K27_41 : List Item := adv 8 [true] K27_40
noncomputable def K27_42 : List Item := adv 10 [false] K27_40
set_option maxRecDepth 20000 in
set_option maxHeartbeats 20000000 in
theorem rkind_any (s : ByteArray) (w : World) : Ret Tryd.prog 27 #[.string s] w (fun v w' => v = .tuple #[.int .i64 (kA s), .int .i64 (kN s), .int .i64 (kT s), .bool (kO s)] ∧ Sep w [] w') := by
  have S0 := Sep.refl w
  refine Ret.named fun R hR => ?_
  refine Ret.of_J (N := 36) [(0, .string s)] Tryd.func27 rfl rfl (Nat.le_of_ble_eq_true (by kernel_rfl)) (by kernel_rfl) ?_
  refine J.run 18 K27_0 [(7, .bool (s.toList == (⟨#[99, 111, 110, 115, 116]⟩ : ByteArray).toList)), (6, .string s)] w (by kernel_rfl) ?_
  rcases Bool.eq_false_or_eq_true (s.toList == (⟨#[99, 111, 110, 115, 116]⟩ : ByteArray).toList) with fk1 | fk1
  · skip
    refine J.head (.bool true) (congrArg Value.bool fk1) ?_
    refine J.run 8 K27_1 [(5, .bool true), (4, .int .i64 0), (3, .int .i64 1), (2, .int .i64 0)] w (by kernel_rfl) ?_
    refine J.ret Tryd.f27 [.int .i64 0, .int .i64 1, .int .i64 0, .bool true] Tryd.func27 ⟨by kernel_rfl, by kernel_rfl, by kernel_rfl, by kernel_rfl, trivial⟩ ?_
    refine hR _ _ ?_
    have e_ := eqT_eq (a := s) (b := (⟨#[99, 111, 110, 115, 116]⟩ : ByteArray)) fk1
    subst e_
    exact ⟨by kernel_rfl, S0.nil⟩
  · skip
    refine J.head (.bool false) (congrArg Value.bool fk1) ?_
    refine J.run 7 K27_2 [(9, .bool (s.toList == (⟨#[97, 100, 100]⟩ : ByteArray).toList)), (6, .string s)] w (by kernel_rfl) ?_
    rcases Bool.eq_false_or_eq_true (s.toList == (⟨#[97, 100, 100]⟩ : ByteArray).toList) with fk2 | fk2
    · skip
      refine J.head (.bool true) (congrArg Value.bool fk2) ?_
      refine J.run 10 K27_3 [(5, .bool true), (4, .int .i64 0), (3, .int .i64 0), (2, .int .i64 2)] w (by kernel_rfl) ?_
      refine J.ret Tryd.f27 [.int .i64 2, .int .i64 0, .int .i64 0, .bool true] Tryd.func27 ⟨by kernel_rfl, by kernel_rfl, by kernel_rfl, by kernel_rfl, trivial⟩ ?_
      refine hR _ _ ?_
      have e_ := eqT_eq (a := s) (b := (⟨#[97, 100, 100]⟩ : ByteArray)) fk2
      subst e_
      exact ⟨by kernel_rfl, S0.nil⟩
    · skip
      refine J.head (.bool false) (congrArg Value.bool fk2) ?_
      refine J.run 6 K27_4 [(9, .bool (s.toList == (⟨#[115, 117, 98]⟩ : ByteArray).toList)), (6, .string s)] w (by kernel_rfl) ?_
      rcases Bool.eq_false_or_eq_true (s.toList == (⟨#[115, 117, 98]⟩ : ByteArray).toList) with fk3 | fk3
      · skip
        refine J.head (.bool true) (congrArg Value.bool fk3) ?_
        refine J.run 10 K27_5 [(5, .bool true), (4, .int .i64 0), (3, .int .i64 0), (2, .int .i64 2)] w (by kernel_rfl) ?_
        refine J.ret Tryd.f27 [.int .i64 2, .int .i64 0, .int .i64 0, .bool true] Tryd.func27 ⟨by kernel_rfl, by kernel_rfl, by kernel_rfl, by kernel_rfl, trivial⟩ ?_
        refine hR _ _ ?_
        have e_ := eqT_eq (a := s) (b := (⟨#[115, 117, 98]⟩ : ByteArray)) fk3
        subst e_
        exact ⟨by kernel_rfl, S0.nil⟩
      · skip
        refine J.head (.bool false) (congrArg Value.bool fk3) ?_
        refine J.run 6 K27_6 [(9, .bool (s.toList == (⟨#[109, 117, 108]⟩ : ByteArray).toList)), (6, .string s)] w (by kernel_rfl) ?_
        rcases Bool.eq_false_or_eq_true (s.toList == (⟨#[109, 117, 108]⟩ : ByteArray).toList) with fk4 | fk4
        · skip
          refine J.head (.bool true) (congrArg Value.bool fk4) ?_
          refine J.run 10 K27_7 [(5, .bool true), (4, .int .i64 0), (3, .int .i64 0), (2, .int .i64 2)] w (by kernel_rfl) ?_
          refine J.ret Tryd.f27 [.int .i64 2, .int .i64 0, .int .i64 0, .bool true] Tryd.func27 ⟨by kernel_rfl, by kernel_rfl, by kernel_rfl, by kernel_rfl, trivial⟩ ?_
          refine hR _ _ ?_
          have e_ := eqT_eq (a := s) (b := (⟨#[109, 117, 108]⟩ : ByteArray)) fk4
          subst e_
          exact ⟨by kernel_rfl, S0.nil⟩
        · skip
          refine J.head (.bool false) (congrArg Value.bool fk4) ?_
          refine J.run 6 K27_8 [(9, .bool (s.toList == (⟨#[100, 105, 118]⟩ : ByteArray).toList)), (6, .string s)] w (by kernel_rfl) ?_
          rcases Bool.eq_false_or_eq_true (s.toList == (⟨#[100, 105, 118]⟩ : ByteArray).toList) with fk5 | fk5
          · skip
            refine J.head (.bool true) (congrArg Value.bool fk5) ?_
            refine J.run 10 K27_9 [(5, .bool true), (4, .int .i64 0), (3, .int .i64 0), (2, .int .i64 2)] w (by kernel_rfl) ?_
            refine J.ret Tryd.f27 [.int .i64 2, .int .i64 0, .int .i64 0, .bool true] Tryd.func27 ⟨by kernel_rfl, by kernel_rfl, by kernel_rfl, by kernel_rfl, trivial⟩ ?_
            refine hR _ _ ?_
            have e_ := eqT_eq (a := s) (b := (⟨#[100, 105, 118]⟩ : ByteArray)) fk5
            subst e_
            exact ⟨by kernel_rfl, S0.nil⟩
          · skip
            refine J.head (.bool false) (congrArg Value.bool fk5) ?_
            refine J.run 6 K27_10 [(9, .bool (s.toList == (⟨#[109, 105, 110]⟩ : ByteArray).toList)), (6, .string s)] w (by kernel_rfl) ?_
            rcases Bool.eq_false_or_eq_true (s.toList == (⟨#[109, 105, 110]⟩ : ByteArray).toList) with fk6 | fk6
            · skip
              refine J.head (.bool true) (congrArg Value.bool fk6) ?_
              refine J.run 10 K27_11 [(5, .bool true), (4, .int .i64 0), (3, .int .i64 0), (2, .int .i64 2)] w (by kernel_rfl) ?_
              refine J.ret Tryd.f27 [.int .i64 2, .int .i64 0, .int .i64 0, .bool true] Tryd.func27 ⟨by kernel_rfl, by kernel_rfl, by kernel_rfl, by kernel_rfl, trivial⟩ ?_
              refine hR _ _ ?_
              have e_ := eqT_eq (a := s) (b := (⟨#[109, 105, 110]⟩ : ByteArray)) fk6
              subst e_
              exact ⟨by kernel_rfl, S0.nil⟩
            · skip
              refine J.head (.bool false) (congrArg Value.bool fk6) ?_
              refine J.run 6 K27_12 [(9, .bool (s.toList == (⟨#[109, 97, 120]⟩ : ByteArray).toList)), (6, .string s)] w (by kernel_rfl) ?_
              rcases Bool.eq_false_or_eq_true (s.toList == (⟨#[109, 97, 120]⟩ : ByteArray).toList) with fk7 | fk7
              · skip
                refine J.head (.bool true) (congrArg Value.bool fk7) ?_
                refine J.run 10 K27_13 [(5, .bool true), (4, .int .i64 0), (3, .int .i64 0), (2, .int .i64 2)] w (by kernel_rfl) ?_
                refine J.ret Tryd.f27 [.int .i64 2, .int .i64 0, .int .i64 0, .bool true] Tryd.func27 ⟨by kernel_rfl, by kernel_rfl, by kernel_rfl, by kernel_rfl, trivial⟩ ?_
                refine hR _ _ ?_
                have e_ := eqT_eq (a := s) (b := (⟨#[109, 97, 120]⟩ : ByteArray)) fk7
                subst e_
                exact ⟨by kernel_rfl, S0.nil⟩
              · skip
                refine J.head (.bool false) (congrArg Value.bool fk7) ?_
                refine J.run 6 K27_14 [(9, .bool (s.toList == (⟨#[108, 101, 115, 115]⟩ : ByteArray).toList)), (6, .string s)] w (by kernel_rfl) ?_
                rcases Bool.eq_false_or_eq_true (s.toList == (⟨#[108, 101, 115, 115]⟩ : ByteArray).toList) with fk8 | fk8
                · skip
                  refine J.head (.bool true) (congrArg Value.bool fk8) ?_
                  refine J.run 10 K27_15 [(5, .bool true), (4, .int .i64 0), (3, .int .i64 0), (2, .int .i64 2)] w (by kernel_rfl) ?_
                  refine J.ret Tryd.f27 [.int .i64 2, .int .i64 0, .int .i64 0, .bool true] Tryd.func27 ⟨by kernel_rfl, by kernel_rfl, by kernel_rfl, by kernel_rfl, trivial⟩ ?_
                  refine hR _ _ ?_
                  have e_ := eqT_eq (a := s) (b := (⟨#[108, 101, 115, 115]⟩ : ByteArray)) fk8
                  subst e_
                  exact ⟨by kernel_rfl, S0.nil⟩
                · skip
                  refine J.head (.bool false) (congrArg Value.bool fk8) ?_
                  refine J.run 6 K27_16 [(9, .bool (s.toList == (⟨#[101, 113, 117, 97, 108]⟩ : ByteArray).toList)), (6, .string s)] w (by kernel_rfl) ?_
                  rcases Bool.eq_false_or_eq_true (s.toList == (⟨#[101, 113, 117, 97, 108]⟩ : ByteArray).toList) with fk9 | fk9
                  · skip
                    refine J.head (.bool true) (congrArg Value.bool fk9) ?_
                    refine J.run 10 K27_17 [(5, .bool true), (4, .int .i64 0), (3, .int .i64 0), (2, .int .i64 2)] w (by kernel_rfl) ?_
                    refine J.ret Tryd.f27 [.int .i64 2, .int .i64 0, .int .i64 0, .bool true] Tryd.func27 ⟨by kernel_rfl, by kernel_rfl, by kernel_rfl, by kernel_rfl, trivial⟩ ?_
                    refine hR _ _ ?_
                    have e_ := eqT_eq (a := s) (b := (⟨#[101, 113, 117, 97, 108]⟩ : ByteArray)) fk9
                    subst e_
                    exact ⟨by kernel_rfl, S0.nil⟩
                  · skip
                    refine J.head (.bool false) (congrArg Value.bool fk9) ?_
                    refine J.run 6 K27_18 [(9, .bool (s.toList == (⟨#[97, 110, 100]⟩ : ByteArray).toList)), (6, .string s)] w (by kernel_rfl) ?_
                    rcases Bool.eq_false_or_eq_true (s.toList == (⟨#[97, 110, 100]⟩ : ByteArray).toList) with fk10 | fk10
                    · skip
                      refine J.head (.bool true) (congrArg Value.bool fk10) ?_
                      refine J.run 10 K27_19 [(5, .bool true), (4, .int .i64 0), (3, .int .i64 0), (2, .int .i64 2)] w (by kernel_rfl) ?_
                      refine J.ret Tryd.f27 [.int .i64 2, .int .i64 0, .int .i64 0, .bool true] Tryd.func27 ⟨by kernel_rfl, by kernel_rfl, by kernel_rfl, by kernel_rfl, trivial⟩ ?_
                      refine hR _ _ ?_
                      have e_ := eqT_eq (a := s) (b := (⟨#[97, 110, 100]⟩ : ByteArray)) fk10
                      subst e_
                      exact ⟨by kernel_rfl, S0.nil⟩
                    · skip
                      refine J.head (.bool false) (congrArg Value.bool fk10) ?_
                      refine J.run 5 K27_20 [(9, .bool (s.toList == (⟨#[111, 114]⟩ : ByteArray).toList)), (6, .string s)] w (by kernel_rfl) ?_
                      rcases Bool.eq_false_or_eq_true (s.toList == (⟨#[111, 114]⟩ : ByteArray).toList) with fk11 | fk11
                      · skip
                        refine J.head (.bool true) (congrArg Value.bool fk11) ?_
                        refine J.run 8 K27_21 [(5, .bool true), (4, .int .i64 0), (3, .int .i64 0), (2, .int .i64 2)] w (by kernel_rfl) ?_
                        refine J.ret Tryd.f27 [.int .i64 2, .int .i64 0, .int .i64 0, .bool true] Tryd.func27 ⟨by kernel_rfl, by kernel_rfl, by kernel_rfl, by kernel_rfl, trivial⟩ ?_
                        refine hR _ _ ?_
                        have e_ := eqT_eq (a := s) (b := (⟨#[111, 114]⟩ : ByteArray)) fk11
                        subst e_
                        exact ⟨by kernel_rfl, S0.nil⟩
                      · skip
                        refine J.head (.bool false) (congrArg Value.bool fk11) ?_
                        refine J.run 7 K27_22 [(20, .bool (s.toList == (⟨#[110, 101, 103]⟩ : ByteArray).toList)), (6, .string s)] w (by kernel_rfl) ?_
                        rcases Bool.eq_false_or_eq_true (s.toList == (⟨#[110, 101, 103]⟩ : ByteArray).toList) with fk12 | fk12
                        · skip
                          refine J.head (.bool true) (congrArg Value.bool fk12) ?_
                          refine J.run 10 K27_23 [(5, .bool true), (4, .int .i64 0), (3, .int .i64 0), (2, .int .i64 1)] w (by kernel_rfl) ?_
                          refine J.ret Tryd.f27 [.int .i64 1, .int .i64 0, .int .i64 0, .bool true] Tryd.func27 ⟨by kernel_rfl, by kernel_rfl, by kernel_rfl, by kernel_rfl, trivial⟩ ?_
                          refine hR _ _ ?_
                          have e_ := eqT_eq (a := s) (b := (⟨#[110, 101, 103]⟩ : ByteArray)) fk12
                          subst e_
                          exact ⟨by kernel_rfl, S0.nil⟩
                        · skip
                          refine J.head (.bool false) (congrArg Value.bool fk12) ?_
                          refine J.run 6 K27_24 [(20, .bool (s.toList == (⟨#[99, 111, 110, 118, 101, 114, 116]⟩ : ByteArray).toList)), (6, .string s)] w (by kernel_rfl) ?_
                          rcases Bool.eq_false_or_eq_true (s.toList == (⟨#[99, 111, 110, 118, 101, 114, 116]⟩ : ByteArray).toList) with fk13 | fk13
                          · skip
                            refine J.head (.bool true) (congrArg Value.bool fk13) ?_
                            refine J.run 10 K27_25 [(5, .bool true), (4, .int .i64 0), (3, .int .i64 0), (2, .int .i64 1)] w (by kernel_rfl) ?_
                            refine J.ret Tryd.f27 [.int .i64 1, .int .i64 0, .int .i64 0, .bool true] Tryd.func27 ⟨by kernel_rfl, by kernel_rfl, by kernel_rfl, by kernel_rfl, trivial⟩ ?_
                            refine hR _ _ ?_
                            have e_ := eqT_eq (a := s) (b := (⟨#[99, 111, 110, 118, 101, 114, 116]⟩ : ByteArray)) fk13
                            subst e_
                            exact ⟨by kernel_rfl, S0.nil⟩
                          · skip
                            refine J.head (.bool false) (congrArg Value.bool fk13) ?_
                            refine J.run 5 K27_26 [(20, .bool (s.toList == (⟨#[110, 111, 116]⟩ : ByteArray).toList)), (6, .string s)] w (by kernel_rfl) ?_
                            rcases Bool.eq_false_or_eq_true (s.toList == (⟨#[110, 111, 116]⟩ : ByteArray).toList) with fk14 | fk14
                            · skip
                              refine J.head (.bool true) (congrArg Value.bool fk14) ?_
                              refine J.run 8 K27_27 [(5, .bool true), (4, .int .i64 0), (3, .int .i64 0), (2, .int .i64 1)] w (by kernel_rfl) ?_
                              refine J.ret Tryd.f27 [.int .i64 1, .int .i64 0, .int .i64 0, .bool true] Tryd.func27 ⟨by kernel_rfl, by kernel_rfl, by kernel_rfl, by kernel_rfl, trivial⟩ ?_
                              refine hR _ _ ?_
                              have e_ := eqT_eq (a := s) (b := (⟨#[110, 111, 116]⟩ : ByteArray)) fk14
                              subst e_
                              exact ⟨by kernel_rfl, S0.nil⟩
                            · skip
                              refine J.head (.bool false) (congrArg Value.bool fk14) ?_
                              refine J.run 7 K27_28 [(24, .bool (s.toList == (⟨#[108, 105, 109, 105, 116]⟩ : ByteArray).toList)), (6, .string s)] w (by kernel_rfl) ?_
                              rcases Bool.eq_false_or_eq_true (s.toList == (⟨#[108, 105, 109, 105, 116]⟩ : ByteArray).toList) with fk15 | fk15
                              · skip
                                refine J.head (.bool true) (congrArg Value.bool fk15) ?_
                                refine J.run 10 K27_29 [(5, .bool true), (4, .int .i64 0), (3, .int .i64 2), (2, .int .i64 1)] w (by kernel_rfl) ?_
                                refine J.ret Tryd.f27 [.int .i64 1, .int .i64 2, .int .i64 0, .bool true] Tryd.func27 ⟨by kernel_rfl, by kernel_rfl, by kernel_rfl, by kernel_rfl, trivial⟩ ?_
                                refine hR _ _ ?_
                                have e_ := eqT_eq (a := s) (b := (⟨#[108, 105, 109, 105, 116]⟩ : ByteArray)) fk15
                                subst e_
                                exact ⟨by kernel_rfl, S0.nil⟩
                              · skip
                                refine J.head (.bool false) (congrArg Value.bool fk15) ?_
                                refine J.run 5 K27_30 [(24, .bool (s.toList == (⟨#[104, 121, 115, 116, 101, 114, 101, 115, 105, 115]⟩ : ByteArray).toList)), (6, .string s)] w (by kernel_rfl) ?_
                                rcases Bool.eq_false_or_eq_true (s.toList == (⟨#[104, 121, 115, 116, 101, 114, 101, 115, 105, 115]⟩ : ByteArray).toList) with fk16 | fk16
                                · skip
                                  refine J.head (.bool true) (congrArg Value.bool fk16) ?_
                                  refine J.run 8 K27_31 [(5, .bool true), (4, .int .i64 0), (3, .int .i64 2), (2, .int .i64 1)] w (by kernel_rfl) ?_
                                  refine J.ret Tryd.f27 [.int .i64 1, .int .i64 2, .int .i64 0, .bool true] Tryd.func27 ⟨by kernel_rfl, by kernel_rfl, by kernel_rfl, by kernel_rfl, trivial⟩ ?_
                                  refine hR _ _ ?_
                                  have e_ := eqT_eq (a := s) (b := (⟨#[104, 121, 115, 116, 101, 114, 101, 115, 105, 115]⟩ : ByteArray)) fk16
                                  subst e_
                                  exact ⟨by kernel_rfl, S0.nil⟩
                                · skip
                                  refine J.head (.bool false) (congrArg Value.bool fk16) ?_
                                  refine J.run 6 K27_32 [(27, .bool (s.toList == (⟨#[99, 117, 114, 118, 101]⟩ : ByteArray).toList)), (6, .string s)] w (by kernel_rfl) ?_
                                  rcases Bool.eq_false_or_eq_true (s.toList == (⟨#[99, 117, 114, 118, 101]⟩ : ByteArray).toList) with fk17 | fk17
                                  · skip
                                    refine J.head (.bool true) (congrArg Value.bool fk17) ?_
                                    refine J.run 8 K27_33 [(5, .bool true), (4, .int .i64 1), (3, .int .i64 0), (2, .int .i64 1)] w (by kernel_rfl) ?_
                                    refine J.ret Tryd.f27 [.int .i64 1, .int .i64 0, .int .i64 1, .bool true] Tryd.func27 ⟨by kernel_rfl, by kernel_rfl, by kernel_rfl, by kernel_rfl, trivial⟩ ?_
                                    refine hR _ _ ?_
                                    have e_ := eqT_eq (a := s) (b := (⟨#[99, 117, 114, 118, 101]⟩ : ByteArray)) fk17
                                    subst e_
                                    exact ⟨by kernel_rfl, S0.nil⟩
                                  · skip
                                    refine J.head (.bool false) (congrArg Value.bool fk17) ?_
                                    refine J.run 6 K27_34 [(29, .bool (s.toList == (⟨#[109, 97, 112]⟩ : ByteArray).toList)), (6, .string s)] w (by kernel_rfl) ?_
                                    rcases Bool.eq_false_or_eq_true (s.toList == (⟨#[109, 97, 112]⟩ : ByteArray).toList) with fk18 | fk18
                                    · skip
                                      refine J.head (.bool true) (congrArg Value.bool fk18) ?_
                                      refine J.run 8 K27_35 [(5, .bool true), (4, .int .i64 2), (3, .int .i64 0), (2, .int .i64 2)] w (by kernel_rfl) ?_
                                      refine J.ret Tryd.f27 [.int .i64 2, .int .i64 0, .int .i64 2, .bool true] Tryd.func27 ⟨by kernel_rfl, by kernel_rfl, by kernel_rfl, by kernel_rfl, trivial⟩ ?_
                                      refine hR _ _ ?_
                                      have e_ := eqT_eq (a := s) (b := (⟨#[109, 97, 112]⟩ : ByteArray)) fk18
                                      subst e_
                                      exact ⟨by kernel_rfl, S0.nil⟩
                                    · skip
                                      refine J.head (.bool false) (congrArg Value.bool fk18) ?_
                                      refine J.run 7 K27_36 [(31, .bool (s.toList == (⟨#[100, 101, 108, 97, 121]⟩ : ByteArray).toList)), (6, .string s)] w (by kernel_rfl) ?_
                                      rcases Bool.eq_false_or_eq_true (s.toList == (⟨#[100, 101, 108, 97, 121]⟩ : ByteArray).toList) with fk19 | fk19
                                      · skip
                                        refine J.head (.bool true) (congrArg Value.bool fk19) ?_
                                        refine J.run 10 K27_37 [(5, .bool true), (4, .int .i64 0), (3, .int .i64 1), (2, .int .i64 1)] w (by kernel_rfl) ?_
                                        refine J.ret Tryd.f27 [.int .i64 1, .int .i64 1, .int .i64 0, .bool true] Tryd.func27 ⟨by kernel_rfl, by kernel_rfl, by kernel_rfl, by kernel_rfl, trivial⟩ ?_
                                        refine hR _ _ ?_
                                        have e_ := eqT_eq (a := s) (b := (⟨#[100, 101, 108, 97, 121]⟩ : ByteArray)) fk19
                                        subst e_
                                        exact ⟨by kernel_rfl, S0.nil⟩
                                      · skip
                                        refine J.head (.bool false) (congrArg Value.bool fk19) ?_
                                        refine J.run 5 K27_38 [(31, .bool (s.toList == (⟨#[108, 97, 103]⟩ : ByteArray).toList)), (6, .string s)] w (by kernel_rfl) ?_
                                        rcases Bool.eq_false_or_eq_true (s.toList == (⟨#[108, 97, 103]⟩ : ByteArray).toList) with fk20 | fk20
                                        · skip
                                          refine J.head (.bool true) (congrArg Value.bool fk20) ?_
                                          refine J.run 8 K27_39 [(5, .bool true), (4, .int .i64 0), (3, .int .i64 1), (2, .int .i64 1)] w (by kernel_rfl) ?_
                                          refine J.ret Tryd.f27 [.int .i64 1, .int .i64 1, .int .i64 0, .bool true] Tryd.func27 ⟨by kernel_rfl, by kernel_rfl, by kernel_rfl, by kernel_rfl, trivial⟩ ?_
                                          refine hR _ _ ?_
                                          have e_ := eqT_eq (a := s) (b := (⟨#[108, 97, 103]⟩ : ByteArray)) fk20
                                          subst e_
                                          exact ⟨by kernel_rfl, S0.nil⟩
                                        · skip
                                          refine J.head (.bool false) (congrArg Value.bool fk20) ?_
                                          refine J.run 6 K27_40 [(34, .bool (s.toList == (⟨#[115, 119, 105, 116, 99, 104]⟩ : ByteArray).toList))] w (by kernel_rfl) ?_
                                          rcases Bool.eq_false_or_eq_true (s.toList == (⟨#[115, 119, 105, 116, 99, 104]⟩ : ByteArray).toList) with fk21 | fk21
                                          · skip
                                            refine J.head (.bool true) (congrArg Value.bool fk21) ?_
                                            refine J.run 8 K27_41 [(5, .bool true), (4, .int .i64 0), (3, .int .i64 0), (2, .int .i64 3)] w (by kernel_rfl) ?_
                                            refine J.ret Tryd.f27 [.int .i64 3, .int .i64 0, .int .i64 0, .bool true] Tryd.func27 ⟨by kernel_rfl, by kernel_rfl, by kernel_rfl, by kernel_rfl, trivial⟩ ?_
                                            refine hR _ _ ?_
                                            have e_ := eqT_eq (a := s) (b := (⟨#[115, 119, 105, 116, 99, 104]⟩ : ByteArray)) fk21
                                            subst e_
                                            exact ⟨by kernel_rfl, S0.nil⟩
                                          · skip
                                            refine J.head (.bool false) (congrArg Value.bool fk21) ?_
                                            refine J.run 10 K27_42 [(5, .bool false), (4, .int .i64 0), (3, .int .i64 0), (2, .int .i64 0)] w (by kernel_rfl) ?_
                                            refine J.ret Tryd.f27 [.int .i64 0, .int .i64 0, .int .i64 0, .bool false] Tryd.func27 ⟨by kernel_rfl, by kernel_rfl, by kernel_rfl, by kernel_rfl, trivial⟩ ?_
                                            refine hR _ _ ?_
                                            obtain ⟨e1, e2, e3, e4⟩ := kind_out (s := s) (by unfold kindsL; simp only [List.forall_mem_cons]; exact ⟨fk1, fk2, fk3, fk4, fk5, fk12, fk6, fk7, fk15, fk13, fk17, fk18, fk19, fk20, fk21, fk8, fk9, fk10, fk11, fk14, fk16, fun _ h => by cases h⟩)
                                            exact ⟨by rw [e1, e2, e3, e4]; rfl, S0.nil⟩

end Go.Proofs.YtlklealllohmgaaDoor
