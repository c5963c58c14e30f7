/- Walks of functions of this seat, printed by a program over the engine. Conditions: as each theorem says. -/
import Derived.Test.YtbbpgidmadlgmaaProg
import Derived.Test.YtbbpgidmadlgmaaZdEng9
namespace Go.Proofs.Ytbbpgidmadlgmaa
noncomputable section
open Go.Eng Go.RowKit
set_option linter.unusedSimpArgs false
set_option linter.unusedVariables false
theorem Try.mixed : Try.prog.follows .mixedOrders = true := by kernel_rfl

def letterB (c : Int) : Bool := (decide (65 ≤ c) && decide (c ≤ 90)) || (decide (97 ≤ c) && decide (c ≤ 122))
def digitB (c : Int) : Bool := decide (48 ≤ c) && decide (c ≤ 57)
def partB (c : Int) : Bool := letterB c || digitB c || c == 95
def eqT (a b : ByteArray) : Bool := a.toList == b.toList
def keysW : List ByteArray := [⟨#[115, 116, 97, 116, 101, 115]⟩, ⟨#[105, 110, 112, 117, 116, 115]⟩, ⟨#[115, 116, 97, 114, 116]⟩, ⟨#[116, 111]⟩, ⟨#[105, 102]⟩, ⟨#[110, 111, 116]⟩, ⟨#[97, 102, 116, 101, 114]⟩]
def keyB (s : ByteArray) : Bool := keysW.any fun k => eqT s k
def nameB (s : ByteArray) : Bool := decide (1 ≤ s.size) && decide (s.size ≤ 24) && letterB (byteAt s 0) && ((List.range s.size).all fun j => partB (byteAt s j)) && !keyB s
theorem all_range_false {n j : Nat} {p : Nat → Bool} (h : j < n) (hp : p j = false) : (List.range n).all p = false := by
  rw [List.all_eq_false]; exact ⟨j, by simpa using h, by simp [hp]⟩
theorem all_range_true {n : Nat} {p : Nat → Bool} (h : ∀ j, j < n → p j = true) : (List.range n).all p = true := by
  rw [List.all_eq_true]; intro j hj; exact h j (by simpa using hj)
theorem name_no {s : ByteArray} (h : s.size < 1 ∨ 24 < s.size ∨ letterB (byteAt s 0) = false ∨ keyB s = true) : nameB s = false := by
  unfold nameB
  rcases h with h | h | h | h
  · rw [decide_eq_false (show ¬ 1 ≤ s.size by omega)]; rfl
  · rw [decide_eq_false (show ¬ s.size ≤ 24 by omega)]; simp
  · rw [h]; simp
  · rw [h]; simp
theorem name_bad {s : ByteArray} {i : Int} (h0 : 0 ≤ i) (h : i < (s.size : Int)) (hp : partB (byteAt s i.toNat) = false) : nameB s = false := by
  unfold nameB; rw [all_range_false (j := i.toNat) (by omega) hp]; simp
theorem name_yes {s : ByteArray} (h1 : 1 ≤ s.size) (h2 : s.size ≤ 24) (h3 : letterB (byteAt s 0) = true) (h4 : ∀ j, j < s.size → partB (byteAt s j) = true) (h5 : keyB s = false) : nameB s = true := by
  unfold nameB; rw [decide_eq_true h1, decide_eq_true h2, h3, all_range_true h4, h5]; rfl
theorem name_step {s : ByteArray} {i : Int} (hq : ∀ j, j < i.toNat → partB (byteAt s j) = true) (h0 : 0 ≤ i) (hp : partB (byteAt s i.toNat) = true) : ∀ j, j < (i + 1).toNat → partB (byteAt s j) = true := by
  intro j hj
  by_cases e : j = i.toNat
  · subst e; exact hp
  · exact hq j (by omega)

structure Mv where
  gFrom : Int
  gTo : Int
  gOn : Int
  gOff : Int
  gAfter : Int
def mvE (x : Mv) : List Value := [.int .i64 x.gFrom, .int .i64 x.gTo, .int .i64 x.gOn, .int .i64 x.gOff, .int .i64 x.gAfter]
def mvQ (w : World) (x : Mv) : Prop := ((-9223372036854775808) ≤ x.gFrom ∧ x.gFrom ≤ 9223372036854775807) ∧ ((-9223372036854775808) ≤ x.gTo ∧ x.gTo ≤ 9223372036854775807) ∧ ((-9223372036854775808) ≤ x.gOn ∧ x.gOn ≤ 9223372036854775807) ∧ ((-9223372036854775808) ≤ x.gOff ∧ x.gOff ≤ 9223372036854775807) ∧ ((-9223372036854775808) ≤ x.gAfter ∧ x.gAfter ≤ 9223372036854775807) ∧ True
theorem mvQ_sep {w0 w : World} {L : List Eng.Claim} {x : Mv} (h : mvQ w0 x) (S : Sep w0 L w) : mvQ w x := by
  obtain ⟨hgFrom, hgTo, hgOn, hgOff, hgAfter, _⟩ := h
  exact ⟨hgFrom, hgTo, hgOn, hgOff, hgAfter, trivial⟩
structure Cht where
  gStates_a : Option Addr
  gStates_n : Nat
  gStates_c : Nat
  gStates_l : List ByteArray
  gInputs_a : Option Addr
  gInputs_n : Nat
  gInputs_c : Nat
  gInputs_l : List ByteArray
  gStart : Int
  gMoves_a : Option Addr
  gMoves_n : Nat
  gMoves_c : Nat
  gMoves_l : List Mv
def chtQ (w : World) (x : Cht) : Prop := (x.gStates_n ≤ x.gStates_c ∧ x.gStates_c ≤ 9223372036854775807) ∧ Ones Value.string w x.gStates_a x.gStates_n x.gStates_l ∧ (∀ y ∈ x.gStates_l, (fun b => b.size ≤ 9223372036854775807) y) ∧ (x.gInputs_n ≤ x.gInputs_c ∧ x.gInputs_c ≤ 9223372036854775807) ∧ Ones Value.string w x.gInputs_a x.gInputs_n x.gInputs_l ∧ (∀ y ∈ x.gInputs_l, (fun b => b.size ≤ 9223372036854775807) y) ∧ ((-9223372036854775808) ≤ x.gStart ∧ x.gStart ≤ 9223372036854775807) ∧ (x.gMoves_n ≤ x.gMoves_c ∧ x.gMoves_c ≤ 9223372036854775807) ∧ Recs mvE 5 w x.gMoves_a x.gMoves_n x.gMoves_l ∧ (∀ y ∈ x.gMoves_l, (mvQ w) y) ∧ True
theorem chtQ_sep {w0 w : World} {L : List Eng.Claim} {x : Cht} (h : chtQ w0 x) (S : Sep w0 L w) : chtQ w x := by
  obtain ⟨hgStates1, hgStates2, hgStates3, hgInputs1, hgInputs2, hgInputs3, hgStart, hgMoves1, hgMoves2, hgMoves3, _⟩ := h
  exact ⟨hgStates1, hgStates2.sep S, hgStates3, hgInputs1, hgInputs2.sep S, hgInputs3, hgStart, hgMoves1, hgMoves2.sep S, fun y hy => mvQ_sep (hgMoves3 y hy) S, trivial⟩

def namesB (l : List ByteArray) : Bool := (List.range l.length).all fun i => nameB (l.getD i ByteArray.empty) && !(l.take i).any (eqT (l.getD i ByteArray.empty))
theorem names_bad {l : List ByteArray} {i : Int} (h0 : 0 ≤ i) (h : i < (l.length : Int)) (hp : nameB (l.getD i.toNat ByteArray.empty) = false ∨ (l.take i.toNat).any (eqT (l.getD i.toNat ByteArray.empty)) = true) : namesB l = false := by
  unfold namesB; refine all_range_false (j := i.toNat) (by omega) ?_
  rcases hp with hp | hp
  · rw [hp]; rfl
  · rw [hp]; simp
theorem names_yes {l : List ByteArray} (h : ∀ j, j < l.length → nameB (l.getD j ByteArray.empty) = true ∧ (l.take j).any (eqT (l.getD j ByteArray.empty)) = false) : namesB l = true := by
  unfold namesB; refine all_range_true fun j hj => ?_
  rw [(h j hj).1, (h j hj).2]; rfl
theorem names_step {l : List ByteArray} {i : Int} (hq : ∀ j, j < i.toNat → nameB (l.getD j ByteArray.empty) = true ∧ (l.take j).any (eqT (l.getD j ByteArray.empty)) = false) (h0 : 0 ≤ i) (h1 : nameB (l.getD i.toNat ByteArray.empty) = true) (h2 : (l.take i.toNat).any (eqT (l.getD i.toNat ByteArray.empty)) = false) :
    ∀ j, j < (i + 1).toNat → nameB (l.getD j ByteArray.empty) = true ∧ (l.take j).any (eqT (l.getD j ByteArray.empty)) = false := by
  intro j hj
  by_cases e : j = i.toNat
  · subst e; exact ⟨h1, h2⟩
  · exact hq j (by omega)
def andF (x y : Int) : Int := IntKind.wrap .i64 ((BitVec.ofInt 64 x &&& BitVec.ofInt 64 y).toNat : Int)
def mvB (n all : Int) (m : Mv) : Bool := decide (0 ≤ m.gFrom) && decide (m.gFrom < n) && decide (0 ≤ m.gTo) && decide (m.gTo < n) && decide (0 ≤ m.gOn) && decide (m.gOn ≤ all) && decide (0 ≤ m.gOff) && decide (m.gOff ≤ all) && andF m.gOn m.gOff == 0 && decide (0 ≤ m.gAfter) && decide (m.gAfter ≤ 1000)
def maskF (c : Cht) : Int := 2 ^ c.gInputs_n - 1
def validC (c : Cht) : Bool := decide (1 ≤ c.gStates_n) && decide (c.gStates_n ≤ 20) && decide (c.gInputs_n ≤ 10) && namesB c.gStates_l && namesB c.gInputs_l && decide (0 ≤ c.gStart) && decide (c.gStart < (c.gStates_n : Int)) && decide (c.gMoves_n ≤ 100) && c.gMoves_l.all (mvB c.gStates_n (maskF c))
def insideB (c : Cht) (x : Int) : Bool := decide (0 ≤ x) && decide (x < 2 ^ c.gInputs_n)
def fitB (s a x : Int) (m : Mv) : Bool := m.gFrom == s && decide (m.gAfter ≤ a) && andF x m.gOn == m.gOn && andF x m.gOff == 0
def stepI (c : Cht) (s a x : Int) : Int := indexF (fitB s a x) c.gMoves_l
def stepS (c : Cht) (s a x : Int) : Int := if stepI c s a x < 0 then s else (c.gMoves_l.getD (stepI c s a x).toNat ⟨0, 0, 0, 0, 0⟩).gTo
def stepA (c : Cht) (s a x : Int) : Int := if stepI c s a x < 0 then min (a + 1) 1000 else 0
theorem pow10 {n : Nat} (h : n ≤ 12) : (1 : Int) ≤ 2 ^ n ∧ (2 : Int) ^ n ≤ 4096 := by
  have h1 : (1 : Int) ≤ 2 ^ n := by exact_mod_cast Nat.one_le_two_pow
  have h2 : (2 : Int) ^ n ≤ 2 ^ 12 := by exact_mod_cast Nat.pow_le_pow_right (by omega) h
  omega
theorem shl_one {y : Int} {n : Nat} (hn : y = n) (h : n ≤ 12) : IntKind.wrap .i64 (1 * 2 ^ min y.toNat (IntKind.bits .i64)) = 2 ^ n := by
  subst hn
  have hp := pow10 h
  rw [show min ((n : Int).toNat) (IntKind.bits .i64) = n by rw [Int.toNat_natCast]; exact Nat.min_eq_left (show n ≤ 64 by omega), Int.one_mul]
  exact IntWalk.i64_in _ (by omega)
theorem validC_facts {c : Cht} (h : validC c = true) : (1 ≤ c.gStates_n ∧ c.gStates_n ≤ 20) ∧ c.gInputs_n ≤ 10 ∧ (0 ≤ c.gStart ∧ c.gStart < (c.gStates_n : Int)) ∧ c.gMoves_n ≤ 100 ∧ c.gMoves_l.all (mvB c.gStates_n (maskF c)) = true := by
  simp only [validC, Bool.and_eq_true, decide_eq_true_eq] at h
  obtain ⟨⟨⟨⟨⟨⟨⟨⟨h1, h2⟩, h3⟩, h4⟩, h5⟩, h6⟩, h7⟩, h8⟩, h9⟩ := h
  exact ⟨⟨h1, h2⟩, h3, ⟨h6, h7⟩, h8, h9⟩
theorem any_not_all {α : Type} (q : α → Bool) (l : List α) : (l.any fun x => !q x) = !l.all q := by rw [← List.not_all_eq_any_not]
theorem step_bounds {c : Cht} (h : validC c = true) {s a : Int} (x : Int) (hs : 0 ≤ s ∧ s < (c.gStates_n : Int)) (ha : 0 ≤ a ∧ a ≤ 1000) : (0 ≤ stepS c s a x ∧ stepS c s a x < (c.gStates_n : Int)) ∧ 0 ≤ stepA c s a x ∧ stepA c s a x ≤ 1000 := by
  obtain ⟨_, _, _, _, h5⟩ := validC_facts h
  unfold stepS stepA
  split
  · omega
  · rename_i hn
    have hn2 : 0 ≤ indexF (fitB s a x) c.gMoves_l := by unfold stepI at hn; omega
    obtain ⟨h1, _⟩ := indexF_at (⟨0, 0, 0, 0, 0⟩ : Mv) hn2
    rw [List.all_eq_true] at h5
    have hm := getD_Q (Q := fun m => mvB c.gStates_n (maskF c) m = true) h5 (n := (stepI c s a x).toNat) (⟨0, 0, 0, 0, 0⟩ : Mv) (by unfold stepI; omega)
    simp only [mvB, Bool.and_eq_true, decide_eq_true_eq] at hm
    omega

theorem hb52 : HasBody Try.prog 52 := fun _ _ => by kernel_rfl
def K52_0 := adv 9 [] (bodyOf Try.f52)
def K52_1 := adv 4 [] K52_0
def K52_2 := adv 21 [] K52_1
def K52_3 := adv 3 [] K52_1
def K52_4 := adv 5 [] K52_3
def K52_5 := adv 13 [] K52_4
def K52_6 := adv 3 [] K52_4
def K52_7 := adv 5 [] K52_6
def K52_8 := adv 5 [] K52_7
def K52_9 := adv 5 [] K52_7
def K52_10 := adv 10 [] K52_6
def K52_11 := adv 8 [] K52_3
def K52_12 := adv 5 [] K52_11
def K52_13 := adv 5 [] K52_12
def K52_14 := adv 5 [] K52_12
def K52_15 := adv 10 [] K52_11
def K52_16 := adv 7 [] K52_0
def K52_17 := adv 5 [] K52_16
def K52_18 := adv 13 [] K52_17
def K52_19 := adv 3 [] K52_17
def K52_20 := adv 5 [] K52_19
def K52_21 := adv 5 [] K52_20
def K52_22 := adv 5 [] K52_20
def K52_23 := adv 10 [] K52_19
def K52_24 := adv 8 [] K52_16
def K52_25 := adv 5 [] K52_24
def K52_26 := adv 5 [] K52_25
def K52_27 := adv 5 [] K52_25
def K52_28 := adv 10 [] K52_24
set_option maxRecDepth 20000 in
set_option maxHeartbeats 20000000 in
theorem plain_any (c : Int) (w : World) : Ret Try.prog 52 #[.int .u8 c] w (fun v w' => v = .bool (partB c) ∧ Sep w [] w') := by
 have S0 := Sep.refl w
 refine Ret.named fun R hR => ?_
 refine Ret.of_J (N := 29) [(0, .int .u8 c)] Try.func52 rfl rfl (Nat.le_of_ble_eq_true (by kernel_rfl)) (by kernel_rfl) ?_
 refine J.run 9 K52_0 [(5, .bool (decide (c ≥ 97))), (0, .int .u8 c)] w (by kernel_rfl) ?_
 by_cases fk1 : c ≥ 97
 rotate_left
 ·skip
  refine J.head (.bool false) (congrArg Value.bool (decide_eq_false fk1)) ?_
  refine J.run 7 K52_16 [(12, .bool (decide (c ≥ 65))), (9, .bool false), (0, .int .u8 c)] w (by kernel_rfl) ?_
  by_cases fk9 : c ≥ 65
  rotate_left
  ·skip
   refine J.head (.bool false) (congrArg Value.bool (decide_eq_false fk9)) ?_
   refine J.run 8 K52_24 [(20, .bool (decide (c ≥ 48))), (17, .bool false), (0, .int .u8 c)] w (by kernel_rfl) ?_
   by_cases fk13 : c ≥ 48
   rotate_left
   ·skip
    refine J.head (.bool false) (congrArg Value.bool (decide_eq_false fk13)) ?_
    refine J.run 10 K52_28 [(2, .bool (c == 95))] w (by kernel_rfl) ?_
    refine J.ret Try.f52 [.bool (c == 95)] Try.func52 ⟨by kernel_rfl, trivial⟩ ?_
    refine hR _ _ ?_
    exact ⟨congrArg Value.bool (by rw [Bool.eq_iff_iff]; first | (simp [partB, letterB, digitB]; done) | (simp [partB, letterB, digitB]; omega) | (simp [partB, digitB, fk1, fk9, fk13]; done) | (simp [partB, digitB, fk1, fk9, fk13]; omega)), S0.nil⟩
   refine J.head (.bool true) (congrArg Value.bool (decide_eq_true fk13)) ?_
   refine J.run 5 K52_25 [(25, .bool (decide (c ≤ 57))), (0, .int .u8 c)] w (by kernel_rfl) ?_
   by_cases fk14 : c ≤ 57
   ·skip
    refine J.head (.bool true) (congrArg Value.bool (decide_eq_true fk14)) ?_
    refine J.run 5 K52_26 [(2, .bool true)] w (by kernel_rfl) ?_
    refine J.ret Try.f52 [.bool true] Try.func52 ⟨by kernel_rfl, trivial⟩ ?_
    refine hR _ _ ?_
    exact ⟨congrArg Value.bool (by rw [Bool.eq_iff_iff]; first | (simp [partB, letterB, digitB]; done) | (simp [partB, letterB, digitB]; omega) | (simp [partB, digitB, fk1, fk9, fk13, fk14]; done) | (simp [partB, digitB, fk1, fk9, fk13, fk14]; omega)), S0.nil⟩
   refine J.head (.bool false) (congrArg Value.bool (decide_eq_false fk14)) ?_
   refine J.run 5 K52_27 [(2, .bool (c == 95))] w (by kernel_rfl) ?_
   refine J.ret Try.f52 [.bool (c == 95)] Try.func52 ⟨by kernel_rfl, trivial⟩ ?_
   refine hR _ _ ?_
   exact ⟨congrArg Value.bool (by rw [Bool.eq_iff_iff]; first | (simp [partB, letterB, digitB]; done) | (simp [partB, letterB, digitB]; omega) | (simp [partB, digitB, fk1, fk9, fk13, fk14]; done) | (simp [partB, digitB, fk1, fk9, fk13, fk14]; omega)), S0.nil⟩
  refine J.head (.bool true) (congrArg Value.bool (decide_eq_true fk9)) ?_
  refine J.run 5 K52_17 [(17, .bool (decide (c ≤ 90))), (0, .int .u8 c)] w (by kernel_rfl) ?_
  by_cases fk10 : c ≤ 90
  ·skip
   refine J.head (.bool true) (congrArg Value.bool (decide_eq_true fk10)) ?_
   refine J.run 13 K52_18 [(2, .bool true)] w (by kernel_rfl) ?_
   refine J.ret Try.f52 [.bool true] Try.func52 ⟨by kernel_rfl, trivial⟩ ?_
   refine hR _ _ ?_
   exact ⟨congrArg Value.bool (by rw [Bool.eq_iff_iff]; first | (simp [partB, letterB, digitB]; done) | (simp [partB, letterB, digitB]; omega) | (simp [partB, digitB, fk1, fk9, fk10]; done) | (simp [partB, digitB, fk1, fk9, fk10]; omega)), S0.nil⟩
  refine J.head (.bool false) (congrArg Value.bool (decide_eq_false fk10)) ?_
  refine J.run 3 K52_19 [(20, .bool (decide (c ≥ 48))), (17, .bool false), (0, .int .u8 c)] w (by kernel_rfl) ?_
  by_cases fk11 : c ≥ 48
  rotate_left
  ·skip
   refine J.head (.bool false) (congrArg Value.bool (decide_eq_false fk11)) ?_
   refine J.run 10 K52_23 [(2, .bool (c == 95))] w (by kernel_rfl) ?_
   refine J.ret Try.f52 [.bool (c == 95)] Try.func52 ⟨by kernel_rfl, trivial⟩ ?_
   refine hR _ _ ?_
   exact ⟨congrArg Value.bool (by rw [Bool.eq_iff_iff]; first | (simp [partB, letterB, digitB]; done) | (simp [partB, letterB, digitB]; omega) | (simp [partB, digitB, fk1, fk9, fk10, fk11]; done) | (simp [partB, digitB, fk1, fk9, fk10, fk11]; omega)), S0.nil⟩
  refine J.head (.bool true) (congrArg Value.bool (decide_eq_true fk11)) ?_
  refine J.run 5 K52_20 [(25, .bool (decide (c ≤ 57))), (0, .int .u8 c)] w (by kernel_rfl) ?_
  by_cases fk12 : c ≤ 57
  ·skip
   refine J.head (.bool true) (congrArg Value.bool (decide_eq_true fk12)) ?_
   refine J.run 5 K52_21 [(2, .bool true)] w (by kernel_rfl) ?_
   refine J.ret Try.f52 [.bool true] Try.func52 ⟨by kernel_rfl, trivial⟩ ?_
   refine hR _ _ ?_
   exact ⟨congrArg Value.bool (by rw [Bool.eq_iff_iff]; first | (simp [partB, letterB, digitB]; done) | (simp [partB, letterB, digitB]; omega) | (simp [partB, digitB, fk1, fk9, fk10, fk11, fk12]; done) | (simp [partB, digitB, fk1, fk9, fk10, fk11, fk12]; omega)), S0.nil⟩
  refine J.head (.bool false) (congrArg Value.bool (decide_eq_false fk12)) ?_
  refine J.run 5 K52_22 [(2, .bool (c == 95))] w (by kernel_rfl) ?_
  refine J.ret Try.f52 [.bool (c == 95)] Try.func52 ⟨by kernel_rfl, trivial⟩ ?_
  refine hR _ _ ?_
  exact ⟨congrArg Value.bool (by rw [Bool.eq_iff_iff]; first | (simp [partB, letterB, digitB]; done) | (simp [partB, letterB, digitB]; omega) | (simp [partB, digitB, fk1, fk9, fk10, fk11, fk12]; done) | (simp [partB, digitB, fk1, fk9, fk10, fk11, fk12]; omega)), S0.nil⟩
 refine J.head (.bool true) (congrArg Value.bool (decide_eq_true fk1)) ?_
 refine J.run 4 K52_1 [(9, .bool (decide (c ≤ 122))), (0, .int .u8 c)] w (by kernel_rfl) ?_
 by_cases fk2 : c ≤ 122
 ·skip
  refine J.head (.bool true) (congrArg Value.bool (decide_eq_true fk2)) ?_
  refine J.run 21 K52_2 [(2, .bool true)] w (by kernel_rfl) ?_
  refine J.ret Try.f52 [.bool true] Try.func52 ⟨by kernel_rfl, trivial⟩ ?_
  refine hR _ _ ?_
  exact ⟨congrArg Value.bool (by rw [Bool.eq_iff_iff]; first | (simp [partB, letterB, digitB]; done) | (simp [partB, letterB, digitB]; omega) | (simp [partB, digitB, fk1, fk2]; done) | (simp [partB, digitB, fk1, fk2]; omega)), S0.nil⟩
 refine J.head (.bool false) (congrArg Value.bool (decide_eq_false fk2)) ?_
 refine J.run 3 K52_3 [(12, .bool (decide (c ≥ 65))), (9, .bool false), (0, .int .u8 c)] w (by kernel_rfl) ?_
 by_cases fk3 : c ≥ 65
 rotate_left
 ·skip
  refine J.head (.bool false) (congrArg Value.bool (decide_eq_false fk3)) ?_
  refine J.run 8 K52_11 [(20, .bool (decide (c ≥ 48))), (17, .bool false), (0, .int .u8 c)] w (by kernel_rfl) ?_
  by_cases fk7 : c ≥ 48
  rotate_left
  ·skip
   refine J.head (.bool false) (congrArg Value.bool (decide_eq_false fk7)) ?_
   refine J.run 10 K52_15 [(2, .bool (c == 95))] w (by kernel_rfl) ?_
   refine J.ret Try.f52 [.bool (c == 95)] Try.func52 ⟨by kernel_rfl, trivial⟩ ?_
   refine hR _ _ ?_
   exact ⟨congrArg Value.bool (by rw [Bool.eq_iff_iff]; first | (simp [partB, letterB, digitB]; done) | (simp [partB, letterB, digitB]; omega) | (simp [partB, digitB, fk1, fk2, fk3, fk7]; done) | (simp [partB, digitB, fk1, fk2, fk3, fk7]; omega)), S0.nil⟩
  refine J.head (.bool true) (congrArg Value.bool (decide_eq_true fk7)) ?_
  refine J.run 5 K52_12 [(25, .bool (decide (c ≤ 57))), (0, .int .u8 c)] w (by kernel_rfl) ?_
  by_cases fk8 : c ≤ 57
  ·skip
   refine J.head (.bool true) (congrArg Value.bool (decide_eq_true fk8)) ?_
   refine J.run 5 K52_13 [(2, .bool true)] w (by kernel_rfl) ?_
   refine J.ret Try.f52 [.bool true] Try.func52 ⟨by kernel_rfl, trivial⟩ ?_
   refine hR _ _ ?_
   exact ⟨congrArg Value.bool (by rw [Bool.eq_iff_iff]; first | (simp [partB, letterB, digitB]; done) | (simp [partB, letterB, digitB]; omega) | (simp [partB, digitB, fk1, fk2, fk3, fk7, fk8]; done) | (simp [partB, digitB, fk1, fk2, fk3, fk7, fk8]; omega)), S0.nil⟩
  refine J.head (.bool false) (congrArg Value.bool (decide_eq_false fk8)) ?_
  refine J.run 5 K52_14 [(2, .bool (c == 95))] w (by kernel_rfl) ?_
  refine J.ret Try.f52 [.bool (c == 95)] Try.func52 ⟨by kernel_rfl, trivial⟩ ?_
  refine hR _ _ ?_
  exact ⟨congrArg Value.bool (by rw [Bool.eq_iff_iff]; first | (simp [partB, letterB, digitB]; done) | (simp [partB, letterB, digitB]; omega) | (simp [partB, digitB, fk1, fk2, fk3, fk7, fk8]; done) | (simp [partB, digitB, fk1, fk2, fk3, fk7, fk8]; omega)), S0.nil⟩
 refine J.head (.bool true) (congrArg Value.bool (decide_eq_true fk3)) ?_
 refine J.run 5 K52_4 [(17, .bool (decide (c ≤ 90))), (0, .int .u8 c)] w (by kernel_rfl) ?_
 by_cases fk4 : c ≤ 90
 ·skip
  refine J.head (.bool true) (congrArg Value.bool (decide_eq_true fk4)) ?_
  refine J.run 13 K52_5 [(2, .bool true)] w (by kernel_rfl) ?_
  refine J.ret Try.f52 [.bool true] Try.func52 ⟨by kernel_rfl, trivial⟩ ?_
  refine hR _ _ ?_
  exact ⟨congrArg Value.bool (by rw [Bool.eq_iff_iff]; first | (simp [partB, letterB, digitB]; done) | (simp [partB, letterB, digitB]; omega) | (simp [partB, digitB, fk1, fk2, fk3, fk4]; done) | (simp [partB, digitB, fk1, fk2, fk3, fk4]; omega)), S0.nil⟩
 refine J.head (.bool false) (congrArg Value.bool (decide_eq_false fk4)) ?_
 refine J.run 3 K52_6 [(20, .bool (decide (c ≥ 48))), (17, .bool false), (0, .int .u8 c)] w (by kernel_rfl) ?_
 by_cases fk5 : c ≥ 48
 rotate_left
 ·skip
  refine J.head (.bool false) (congrArg Value.bool (decide_eq_false fk5)) ?_
  refine J.run 10 K52_10 [(2, .bool (c == 95))] w (by kernel_rfl) ?_
  refine J.ret Try.f52 [.bool (c == 95)] Try.func52 ⟨by kernel_rfl, trivial⟩ ?_
  refine hR _ _ ?_
  exact ⟨congrArg Value.bool (by rw [Bool.eq_iff_iff]; first | (simp [partB, letterB, digitB]; done) | (simp [partB, letterB, digitB]; omega) | (simp [partB, digitB, fk1, fk2, fk3, fk4, fk5]; done) | (simp [partB, digitB, fk1, fk2, fk3, fk4, fk5]; omega)), S0.nil⟩
 refine J.head (.bool true) (congrArg Value.bool (decide_eq_true fk5)) ?_
 refine J.run 5 K52_7 [(25, .bool (decide (c ≤ 57))), (0, .int .u8 c)] w (by kernel_rfl) ?_
 by_cases fk6 : c ≤ 57
 ·skip
  refine J.head (.bool true) (congrArg Value.bool (decide_eq_true fk6)) ?_
  refine J.run 5 K52_8 [(2, .bool true)] w (by kernel_rfl) ?_
  refine J.ret Try.f52 [.bool true] Try.func52 ⟨by kernel_rfl, trivial⟩ ?_
  refine hR _ _ ?_
  exact ⟨congrArg Value.bool (by rw [Bool.eq_iff_iff]; first | (simp [partB, letterB, digitB]; done) | (simp [partB, letterB, digitB]; omega) | (simp [partB, digitB, fk1, fk2, fk3, fk4, fk5, fk6]; done) | (simp [partB, digitB, fk1, fk2, fk3, fk4, fk5, fk6]; omega)), S0.nil⟩
 refine J.head (.bool false) (congrArg Value.bool (decide_eq_false fk6)) ?_
 refine J.run 5 K52_9 [(2, .bool (c == 95))] w (by kernel_rfl) ?_
 refine J.ret Try.f52 [.bool (c == 95)] Try.func52 ⟨by kernel_rfl, trivial⟩ ?_
 refine hR _ _ ?_
 exact ⟨congrArg Value.bool (by rw [Bool.eq_iff_iff]; first | (simp [partB, letterB, digitB]; done) | (simp [partB, letterB, digitB]; omega) | (simp [partB, digitB, fk1, fk2, fk3, fk4, fk5, fk6]; done) | (simp [partB, digitB, fk1, fk2, fk3, fk4, fk5, fk6]; omega)), S0.nil⟩

theorem hb53 : HasBody Try.prog 53 := fun _ _ => by kernel_rfl
def K53_0 := adv 13 [] (bodyOf Try.f53)
def K53_1 := adv 5 [] K53_0
def K53_2 := adv 14 [true] K53_1
def K53_3 := adv 2 [] (popK (popK K53_2))
def K53_4 := adv 6 [true] K53_3
def K53_5 := adv 5 [false] K53_3
def K53_6 := adv 6 [false] K53_1
set_option maxRecDepth 20000 in
set_option maxHeartbeats 20000000 in
theorem indexS (la : Option Addr) (len cap : Nat) (l : List ByteArray) (x : ByteArray) (w : World) (hI : Ones Value.string w la len l) (hlen : len ≤ 9223372036854775807) : Ret Try.prog 53 #[.slice la len cap, .string x] w (fun v w' => v = .int .i64 (indexF (eqT x) l) ∧ Sep w [] w') := by
 have S0 := Sep.refl w
 refine Ret.named fun R hR => ?_
 refine Ret.of_J (N := 19) [(0, .slice la len cap), (1, .string x)] Try.func53 rfl rfl (Nat.le_of_ble_eq_true (by kernel_rfl)) (by kernel_rfl) ?_
 refine J.run 13 K53_0 [(8, .int .i64 0), (7, .int .i64 (len : Int)), (0, .slice la len cap), (1, .string x)] w (by kernel_rfl) ?_
 have L53_1 : ∀ (mm_ : Nat) (i : Int) (w1 : World), (0 ≤ i) → (i ≤ (len : Int)) → (∀ j, j < (i).toNat → eqT x (l.getD j ByteArray.empty) = false) → Sep w [] w1 → ((len : Int) - i).toNat = mm_ → J Try.prog 53 19 R K53_0 [(8, .int .i64 i), (7, .int .i64 (len : Int)), (0, .slice la len cap), (1, .string x)] w1 := by
  intro mm1
  induction mm1 using Nat.strongRecOn with
  | _ mm1 ih1 =>
  intro i w1 h0 h1 hq S1 hm1
  refine J.run 5 K53_1 [(9, .bool (decide (i < (len : Int)))), (8, .int .i64 i), (7, .int .i64 (len : Int)), (0, .slice la len cap), (1, .string x)] w1 (by kernel_rfl) ?_
  by_cases fk1 : i < (len : Int)
  rotate_left
  ·skip
   refine J.head (.bool false) (congrArg Value.bool (decide_eq_false fk1)) ?_
   refine J.run 6 K53_6 [(4, .int .i64 (-1))] w1 (by kernel_rfl) ?_
   refine J.ret Try.f53 [.int .i64 (-1)] Try.func53 ⟨by kernel_rfl, trivial⟩ ?_
   refine hR _ _ ?_
   exact ⟨by rw [tup_one, indexF_none ByteArray.empty fun j hj => hq j (by have := hI.len_eq; omega)], S1.nil⟩
  refine J.head (.bool true) (congrArg Value.bool (decide_eq_true fk1)) ?_
  refine J.run 14 K53_2 [(13, .int .i64 i), (12, .slice la len cap), (11, .string x), (5, .int .i64 i), (8, .int .i64 i), (7, .int .i64 (len : Int)), (0, .slice la len cap), (1, .string x)] w1 (by kernel_rfl) ?_
  obtain ⟨p1, hp1, hc1⟩ := hI.at ByteArray.empty (i).toNat (by omega)
  refine J.ok (OK.index 14 22 1 la p1 len (i).toNat i (p1.add (i).toNat) (by kernel_rfl) (by kernel_rfl) hp1 (by omega) (by omega) (by rw [Nat.mul_one])) ?_
  refine J.ok (OK.ldCell 15 9 (p1.add (i).toNat) (.string (l.getD (i).toNat ByteArray.empty)) (by kernel_rfl) (by kernel_rfl) (S1.cell hc1)) ?_
  refine J.run 2 K53_3 [(16, .bool (x.toList == (l.getD (i).toNat ByteArray.empty).toList)), (5, .int .i64 i), (8, .int .i64 i), (7, .int .i64 (len : Int)), (0, .slice la len cap), (1, .string x)] w1 (by kernel_rfl) ?_
  rcases Bool.eq_false_or_eq_true (x.toList == (l.getD (i).toNat ByteArray.empty).toList) with fk2 | fk2
  ·skip
   refine J.head (.bool true) (congrArg Value.bool fk2) ?_
   refine J.run 6 K53_4 [(4, .int .i64 i)] w1 (by kernel_rfl) ?_
   refine J.ret Try.f53 [.int .i64 i] Try.func53 ⟨by kernel_rfl, trivial⟩ ?_
   refine hR _ _ ?_
   exact ⟨by rw [tup_one, indexF_some ByteArray.empty i.toNat (by have := hI.len_eq; omega) hq fk2, Int.toNat_of_nonneg h0], S1.nil⟩
  refine J.head (.bool false) (congrArg Value.bool fk2) ?_
  refine J.run 5 K53_5 [(18, .int .i64 (IntKind.wrap .i64 (i + 1))), (7, .int .i64 (len : Int)), (0, .slice la len cap), (1, .string x)] w1 (by kernel_rfl) ?_
  refine J.head (.int .i64 (i + 1)) (congrArg (Value.int .i64) (IntWalk.i64_in _ (by omega))) ?_
  refine J.run 3 K53_0 [(8, .int .i64 (i + 1)), (7, .int .i64 (len : Int)), (0, .slice la len cap), (1, .string x)] w1 (by kernel_rfl) ?_
  refine J.run 0 K53_0 [(8, .int .i64 (i + 1)), (7, .int .i64 (len : Int)), (0, .slice la len cap), (1, .string x)] w1 (by kernel_rfl) ?_
  exact ih1 _ (show ((len : Int) - (i + 1)).toNat < mm1 from by omega) (i + 1) w1 (by omega) (by omega) (by intro j hj; by_cases e : j = i.toNat; (subst e; exact fk2); exact hq j (by omega)) S1 rfl
 exact L53_1 _ 0 w (by omega) (by omega) (by intro j hj; simp at hj) S0 rfl

theorem hb48 : HasBody Try.prog 48 := fun _ _ => by kernel_rfl
def K48_0 := adv 8 [] (bodyOf Try.f48)
def K48_1 := adv 3 [] (popK K48_0)
set_option maxRecDepth 20000 in
set_option maxHeartbeats 20000000 in
theorem containsS (la : Option Addr) (len cap : Nat) (l : List ByteArray) (x : ByteArray) (w : World) (hI : Ones Value.string w la len l) (hlen : len ≤ 9223372036854775807) : Ret Try.prog 48 #[.slice la len cap, .string x] w (fun v w' => v = .bool (l.any (eqT x)) ∧ Sep w [] w') := by
 have S0 := Sep.refl w
 refine Ret.named fun R hR => ?_
 refine Ret.of_J (N := 9) [(0, .slice la len cap), (1, .string x)] Try.func48 rfl rfl (Nat.le_of_ble_eq_true (by kernel_rfl)) (by kernel_rfl) ?_
 refine J.run 8 K48_0 [(6, .string x), (5, .slice la len cap)] w (by kernel_rfl) ?_
 refine J.callF 7 53 #[.slice la len cap, .string x] hb53 (by kernel_rfl) (indexS la len cap l x _ (hI.sep S0) (by first | omega | (simp; omega))) ?_
 rintro _ w1 ⟨rfl, T1⟩
 have S1 : Sep w [] w1 := S0.trans T1
 clear T1
 refine J.run 3 K48_1 [(4, .bool (decide ((indexF (eqT x) l) ≥ 0)))] w1 (by kernel_rfl) ?_
 refine J.ret Try.f48 [.bool (decide ((indexF (eqT x) l) ≥ 0))] Try.func48 ⟨by kernel_rfl, trivial⟩ ?_
 refine hR _ _ ?_
 exact ⟨congrArg Value.bool indexF_nonneg, S1.nil⟩

theorem letter0 {c : Int} (h1 : ¬ (48 ≤ c ∧ c ≤ 57)) (h2 : c ≠ 95) (h : partB c = true) : letterB c = true := by
  cases hl : letterB c with
  | true => rfl
  | false => simp [partB, hl, digitB] at h; omega
theorem hb47 : HasBody Try.prog 47 := fun _ _ => by kernel_rfl
def K47_0 := adv 11 [] (bodyOf Try.f47)
def K47_1 := adv 25 [true] K47_0
def K47_2 := adv 5 [] K47_0
def K47_3 := adv 20 [true] K47_2
def K47_4 := adv 1 [] K47_2
def K47_5 := adv 2 [] (popK K47_4)
def K47_6 := adv 1 [] K47_5
def K47_7 := adv 4 [] (popK K47_6)
def K47_8 := adv 10 [true] K47_7
def K47_9 := adv 1 [] K47_7
def K47_10 := adv 3 [] (popK K47_9)
def K47_11 := adv 5 [true] K47_10
def K47_12 := adv 11 [false] K47_10
def K47_13 := adv 5 [] K47_12
def K47_14 := adv 13 [true] K47_13
def K47_15 := adv 2 [] (popK (popK K47_14))
def K47_16 := adv 5 [false] K47_15
def K47_17 := adv 5 [true] K47_15
def K47_18 := adv 14 [false] K47_13
def K47_19 := adv 7 [true, true] K47_18
def K47_20 := adv 6 [false] K47_18
def K47_21 := adv 7 [true, true] K47_20
def K47_22 := adv 6 [false] K47_20
def K47_23 := adv 7 [true, true] K47_22
def K47_24 := adv 6 [false] K47_22
def K47_25 := adv 7 [true, true] K47_24
def K47_26 := adv 6 [false] K47_24
def K47_27 := adv 7 [true, true] K47_26
def K47_28 := adv 6 [false] K47_26
def K47_29 := adv 7 [true, true] K47_28
def K47_30 := adv 5 [false] K47_28
def K47_31 := adv 5 [true] K47_30
def K47_32 := adv 7 [false] K47_30
def K47_33 := adv 7 [] K47_5
def K47_34 := adv 3 [] (popK K47_33)
def K47_35 := adv 5 [true] K47_34
def K47_36 := adv 11 [false] K47_34
def K47_37 := adv 5 [] K47_36
def K47_38 := adv 13 [true] K47_37
def K47_39 := adv 2 [] (popK (popK K47_38))
def K47_40 := adv 5 [false] K47_39
def K47_41 := adv 5 [true] K47_39
def K47_42 := adv 14 [false] K47_37
def K47_43 := adv 7 [true, true] K47_42
def K47_44 := adv 6 [false] K47_42
def K47_45 := adv 7 [true, true] K47_44
def K47_46 := adv 6 [false] K47_44
def K47_47 := adv 7 [true, true] K47_46
def K47_48 := adv 6 [false] K47_46
def K47_49 := adv 7 [true, true] K47_48
def K47_50 := adv 6 [false] K47_48
def K47_51 := adv 7 [true, true] K47_50
def K47_52 := adv 6 [false] K47_50
def K47_53 := adv 7 [true, true] K47_52
def K47_54 := adv 5 [false] K47_52
def K47_55 := adv 5 [true] K47_54
def K47_56 := adv 7 [false] K47_54
set_option maxRecDepth 20000 in
set_option maxHeartbeats 20000000 in
theorem name_any (s : ByteArray) (w : World) (hs : s.size ≤ 9223372036854775807) : Ret Try.prog 47 #[.string s] w (fun v w' => v = .bool (nameB s) ∧ Sep w [] w') := by
 have S0 := Sep.refl w
 refine Ret.named fun R hR => ?_
 refine Ret.of_J (N := 47) [(0, .string s)] Try.func47 rfl rfl (Nat.le_of_ble_eq_true (by kernel_rfl)) (by kernel_rfl) ?_
 refine J.run 11 K47_0 [(7, .bool (decide ((s.size : Int) < 1))), (0, .string s)] w (by kernel_rfl) ?_
 by_cases fk1 : (s.size : Int) < 1
 ·skip
  refine J.head (.bool true) (congrArg Value.bool (decide_eq_true fk1)) ?_
  refine J.run 25 K47_1 [(2, .bool false)] w (by kernel_rfl) ?_
  refine J.ret Try.f47 [.bool false] Try.func47 ⟨by kernel_rfl, trivial⟩ ?_
  refine hR _ _ ?_
  exact ⟨congrArg Value.bool (name_no (by first | omega | (right; right; left; first | assumption | (simp [letterB]; omega)))).symm, S0.nil⟩
 refine J.head (.bool false) (congrArg Value.bool (decide_eq_false fk1)) ?_
 refine J.run 5 K47_2 [(12, .bool (decide ((s.size : Int) > 24))), (0, .string s)] w (by kernel_rfl) ?_
 by_cases fk2 : (s.size : Int) > 24
 ·skip
  refine J.head (.bool true) (congrArg Value.bool (decide_eq_true fk2)) ?_
  refine J.run 20 K47_3 [(2, .bool false)] w (by kernel_rfl) ?_
  refine J.ret Try.f47 [.bool false] Try.func47 ⟨by kernel_rfl, trivial⟩ ?_
  refine hR _ _ ?_
  exact ⟨congrArg Value.bool (name_no (by first | omega | (right; right; left; first | assumption | (simp [letterB]; omega)))).symm, S0.nil⟩
 refine J.head (.bool false) (congrArg Value.bool (decide_eq_false fk2)) ?_
 refine J.run 1 K47_4 [(13, .string s), (12, .bool false), (0, .string s)] w (by kernel_rfl) ?_
 have := byteAt_bounds s 0
 refine J.ok (OK.byte 14 9 s (0 : Int) (byteAt s 0) (by kernel_rfl) (by kernel_rfl) (by omega) (by omega) (rfl)) ?_
 refine J.run 2 K47_5 [(16, .bool (decide ((byteAt s 0) ≥ 48))), (12, .bool false), (0, .string s)] w (by kernel_rfl) ?_
 by_cases fk3 : (byteAt s 0) ≥ 48
 rotate_left
 ·skip
  refine J.head (.bool false) (congrArg Value.bool (decide_eq_false fk3)) ?_
  refine J.run 7 K47_33 [(23, .string s), (22, .bool false), (0, .string s)] w (by kernel_rfl) ?_
  have := byteAt_bounds s 0
  refine J.ok (OK.byte 24 9 s (0 : Int) (byteAt s 0) (by kernel_rfl) (by kernel_rfl) (by omega) (by omega) (rfl)) ?_
  refine J.run 3 K47_34 [(26, .bool ((byteAt s 0) == 95)), (0, .string s)] w (by kernel_rfl) ?_
  by_cases fk15 : (byteAt s 0) = 95
  ·skip
   refine J.head (.bool true) (congrArg Value.bool (beq_iff_eq.2 fk15)) ?_
   refine J.run 5 K47_35 [(2, .bool false)] w (by kernel_rfl) ?_
   refine J.ret Try.f47 [.bool false] Try.func47 ⟨by kernel_rfl, trivial⟩ ?_
   refine hR _ _ ?_
   exact ⟨congrArg Value.bool (name_no (by first | omega | (right; right; left; first | assumption | (simp [letterB]; omega)))).symm, S0.nil⟩
  refine J.head (.bool false) (congrArg Value.bool (beq_eq_false_iff_ne.2 fk15)) ?_
  refine J.run 11 K47_36 [(29, .int .i64 0), (28, .int .i64 (s.size : Int)), (0, .string s)] w (by kernel_rfl) ?_
  have L47_2 : ∀ (mm_ : Nat) (i : Int) (w3 : World), (0 ≤ i) → (i ≤ (s.size : Int)) → (∀ j, j < (i).toNat → partB (byteAt s j) = true) → Sep w [] w3 → ((s.size : Int) - i).toNat = mm_ → J Try.prog 47 47 R K47_36 [(29, .int .i64 i), (28, .int .i64 (s.size : Int)), (0, .string s)] w3 := by
   intro mm2
   induction mm2 using Nat.strongRecOn with
   | _ mm2 ih2 =>
   intro i w3 h0 h1 hq S3 hm2
   refine J.run 5 K47_37 [(30, .bool (decide (i < (s.size : Int)))), (29, .int .i64 i), (28, .int .i64 (s.size : Int)), (0, .string s)] w3 (by kernel_rfl) ?_
   by_cases fk16 : i < (s.size : Int)
   ·skip
    refine J.head (.bool true) (congrArg Value.bool (decide_eq_true fk16)) ?_
    refine J.run 13 K47_38 [(33, .int .i64 i), (32, .string s), (29, .int .i64 i), (28, .int .i64 (s.size : Int)), (0, .string s)] w3 (by kernel_rfl) ?_
    have := byteAt_bounds s (i).toNat
    refine J.ok (OK.byte 34 9 s i (byteAt s (i).toNat) (by kernel_rfl) (by kernel_rfl) (by omega) (by omega) (rfl)) ?_
    refine J.callF 35 52 #[.int .u8 (byteAt s (i).toNat)] hb52 (by kernel_rfl) (plain_any (byteAt s (i).toNat) _) ?_
    rintro _ w4 ⟨rfl, T2⟩
    have S4 : Sep w [] w4 := S3.trans T2
    clear T2 S3
    refine J.run 2 K47_39 [(36, .bool (!(partB (byteAt s (i).toNat)))), (29, .int .i64 i), (28, .int .i64 (s.size : Int)), (0, .string s)] w4 (by kernel_rfl) ?_
    rcases Bool.eq_false_or_eq_true (partB (byteAt s (i).toNat)) with fk17 | fk17
    rotate_left
    ·skip
     refine J.head (.bool true) (congrArg Value.bool (by rw [fk17]; rfl)) ?_
     refine J.run 5 K47_41 [(2, .bool false)] w4 (by kernel_rfl) ?_
     refine J.ret Try.f47 [.bool false] Try.func47 ⟨by kernel_rfl, trivial⟩ ?_
     refine hR _ _ ?_
     exact ⟨congrArg Value.bool (name_bad h0 (by omega) fk17).symm, S4.nil⟩
    refine J.head (.bool false) (congrArg Value.bool (by rw [fk17]; rfl)) ?_
    refine J.run 5 K47_40 [(37, .int .i64 (IntKind.wrap .i64 (i + 1))), (28, .int .i64 (s.size : Int)), (0, .string s)] w4 (by kernel_rfl) ?_
    refine J.head (.int .i64 (i + 1)) (congrArg (Value.int .i64) (IntWalk.i64_in _ (by omega))) ?_
    refine J.run 3 K47_36 [(29, .int .i64 (i + 1)), (28, .int .i64 (s.size : Int)), (0, .string s)] w4 (by kernel_rfl) ?_
    refine J.run 0 K47_36 [(29, .int .i64 (i + 1)), (28, .int .i64 (s.size : Int)), (0, .string s)] w4 (by kernel_rfl) ?_
    exact ih2 _ (show ((s.size : Int) - (i + 1)).toNat < mm2 from by omega) (i + 1) w4 (by omega) (by omega) (name_step hq h0 fk17) S4 rfl
   refine J.head (.bool false) (congrArg Value.bool (decide_eq_false fk16)) ?_
   have hlet : letterB (byteAt s 0) = true := letter0 (by omega) (by assumption) (hq 0 (by omega))
   refine J.run 14 K47_42 [(39, .bool (s.toList == (⟨#[115, 116, 97, 116, 101, 115]⟩ : ByteArray).toList)), (38, .string s)] w3 (by kernel_rfl) ?_
   rcases Bool.eq_false_or_eq_true (s.toList == (⟨#[115, 116, 97, 116, 101, 115]⟩ : ByteArray).toList) with fk18 | fk18
   ·skip
    refine J.head (.bool true) (congrArg Value.bool fk18) ?_
    refine J.run 7 K47_43 [(2, .bool false)] w3 (by kernel_rfl) ?_
    refine J.ret Try.f47 [.bool false] Try.func47 ⟨by kernel_rfl, trivial⟩ ?_
    refine hR _ _ ?_
    exact ⟨congrArg Value.bool (name_no (.inr (.inr (.inr (by simp only [keyB, keysW, eqT, List.any_cons, List.any_nil, Bool.or_false, Bool.or_true, Bool.true_or, Bool.false_or, fk1, fk2, fk3, fk15, fk16, fk18]))))).symm, S3.nil⟩
   refine J.head (.bool false) (congrArg Value.bool fk18) ?_
   refine J.run 6 K47_44 [(39, .bool (s.toList == (⟨#[105, 110, 112, 117, 116, 115]⟩ : ByteArray).toList)), (38, .string s)] w3 (by kernel_rfl) ?_
   rcases Bool.eq_false_or_eq_true (s.toList == (⟨#[105, 110, 112, 117, 116, 115]⟩ : ByteArray).toList) with fk19 | fk19
   ·skip
    refine J.head (.bool true) (congrArg Value.bool fk19) ?_
    refine J.run 7 K47_45 [(2, .bool false)] w3 (by kernel_rfl) ?_
    refine J.ret Try.f47 [.bool false] Try.func47 ⟨by kernel_rfl, trivial⟩ ?_
    refine hR _ _ ?_
    exact ⟨congrArg Value.bool (name_no (.inr (.inr (.inr (by simp only [keyB, keysW, eqT, List.any_cons, List.any_nil, Bool.or_false, Bool.or_true, Bool.true_or, Bool.false_or, fk1, fk2, fk3, fk15, fk16, fk18, fk19]))))).symm, S3.nil⟩
   refine J.head (.bool false) (congrArg Value.bool fk19) ?_
   refine J.run 6 K47_46 [(39, .bool (s.toList == (⟨#[115, 116, 97, 114, 116]⟩ : ByteArray).toList)), (38, .string s)] w3 (by kernel_rfl) ?_
   rcases Bool.eq_false_or_eq_true (s.toList == (⟨#[115, 116, 97, 114, 116]⟩ : ByteArray).toList) with fk20 | fk20
   ·skip
    refine J.head (.bool true) (congrArg Value.bool fk20) ?_
    refine J.run 7 K47_47 [(2, .bool false)] w3 (by kernel_rfl) ?_
    refine J.ret Try.f47 [.bool false] Try.func47 ⟨by kernel_rfl, trivial⟩ ?_
    refine hR _ _ ?_
    exact ⟨congrArg Value.bool (name_no (.inr (.inr (.inr (by simp only [keyB, keysW, eqT, List.any_cons, List.any_nil, Bool.or_false, Bool.or_true, Bool.true_or, Bool.false_or, fk1, fk2, fk3, fk15, fk16, fk18, fk19, fk20]))))).symm, S3.nil⟩
   refine J.head (.bool false) (congrArg Value.bool fk20) ?_
   refine J.run 6 K47_48 [(39, .bool (s.toList == (⟨#[116, 111]⟩ : ByteArray).toList)), (38, .string s)] w3 (by kernel_rfl) ?_
   rcases Bool.eq_false_or_eq_true (s.toList == (⟨#[116, 111]⟩ : ByteArray).toList) with fk21 | fk21
   ·skip
    refine J.head (.bool true) (congrArg Value.bool fk21) ?_
    refine J.run 7 K47_49 [(2, .bool false)] w3 (by kernel_rfl) ?_
    refine J.ret Try.f47 [.bool false] Try.func47 ⟨by kernel_rfl, trivial⟩ ?_
    refine hR _ _ ?_
    exact ⟨congrArg Value.bool (name_no (.inr (.inr (.inr (by simp only [keyB, keysW, eqT, List.any_cons, List.any_nil, Bool.or_false, Bool.or_true, Bool.true_or, Bool.false_or, fk1, fk2, fk3, fk15, fk16, fk18, fk19, fk20, fk21]))))).symm, S3.nil⟩
   refine J.head (.bool false) (congrArg Value.bool fk21) ?_
   refine J.run 6 K47_50 [(39, .bool (s.toList == (⟨#[105, 102]⟩ : ByteArray).toList)), (38, .string s)] w3 (by kernel_rfl) ?_
   rcases Bool.eq_false_or_eq_true (s.toList == (⟨#[105, 102]⟩ : ByteArray).toList) with fk22 | fk22
   ·skip
    refine J.head (.bool true) (congrArg Value.bool fk22) ?_
    refine J.run 7 K47_51 [(2, .bool false)] w3 (by kernel_rfl) ?_
    refine J.ret Try.f47 [.bool false] Try.func47 ⟨by kernel_rfl, trivial⟩ ?_
    refine hR _ _ ?_
    exact ⟨congrArg Value.bool (name_no (.inr (.inr (.inr (by simp only [keyB, keysW, eqT, List.any_cons, List.any_nil, Bool.or_false, Bool.or_true, Bool.true_or, Bool.false_or, fk1, fk2, fk3, fk15, fk16, fk18, fk19, fk20, fk21, fk22]))))).symm, S3.nil⟩
   refine J.head (.bool false) (congrArg Value.bool fk22) ?_
   refine J.run 6 K47_52 [(39, .bool (s.toList == (⟨#[110, 111, 116]⟩ : ByteArray).toList)), (38, .string s)] w3 (by kernel_rfl) ?_
   rcases Bool.eq_false_or_eq_true (s.toList == (⟨#[110, 111, 116]⟩ : ByteArray).toList) with fk23 | fk23
   ·skip
    refine J.head (.bool true) (congrArg Value.bool fk23) ?_
    refine J.run 7 K47_53 [(2, .bool false)] w3 (by kernel_rfl) ?_
    refine J.ret Try.f47 [.bool false] Try.func47 ⟨by kernel_rfl, trivial⟩ ?_
    refine hR _ _ ?_
    exact ⟨congrArg Value.bool (name_no (.inr (.inr (.inr (by simp only [keyB, keysW, eqT, List.any_cons, List.any_nil, Bool.or_false, Bool.or_true, Bool.true_or, Bool.false_or, fk1, fk2, fk3, fk15, fk16, fk18, fk19, fk20, fk21, fk22, fk23]))))).symm, S3.nil⟩
   refine J.head (.bool false) (congrArg Value.bool fk23) ?_
   refine J.run 5 K47_54 [(39, .bool (s.toList == (⟨#[97, 102, 116, 101, 114]⟩ : ByteArray).toList))] w3 (by kernel_rfl) ?_
   rcases Bool.eq_false_or_eq_true (s.toList == (⟨#[97, 102, 116, 101, 114]⟩ : ByteArray).toList) with fk24 | fk24
   ·skip
    refine J.head (.bool true) (congrArg Value.bool fk24) ?_
    refine J.run 5 K47_55 [(2, .bool false)] w3 (by kernel_rfl) ?_
    refine J.ret Try.f47 [.bool false] Try.func47 ⟨by kernel_rfl, trivial⟩ ?_
    refine hR _ _ ?_
    exact ⟨congrArg Value.bool (name_no (.inr (.inr (.inr (by simp only [keyB, keysW, eqT, List.any_cons, List.any_nil, Bool.or_false, Bool.or_true, Bool.true_or, Bool.false_or, fk1, fk2, fk3, fk15, fk16, fk18, fk19, fk20, fk21, fk22, fk23, fk24]))))).symm, S3.nil⟩
   refine J.head (.bool false) (congrArg Value.bool fk24) ?_
   refine J.run 7 K47_56 [(2, .bool true)] w3 (by kernel_rfl) ?_
   refine J.ret Try.f47 [.bool true] Try.func47 ⟨by kernel_rfl, trivial⟩ ?_
   refine hR _ _ ?_
   exact ⟨congrArg Value.bool (name_yes (by omega) (by omega) hlet (fun j hj => hq j (by omega)) (by simp only [keyB, keysW, eqT, List.any_cons, List.any_nil, Bool.or_false, Bool.or_true, Bool.true_or, Bool.false_or, fk1, fk2, fk3, fk15, fk16, fk18, fk19, fk20, fk21, fk22, fk23, fk24])).symm, S3.nil⟩
  exact L47_2 _ 0 w (by omega) (by omega) (by intro j hj; simp at hj) S0 rfl
 refine J.head (.bool true) (congrArg Value.bool (decide_eq_true fk3)) ?_
 refine J.run 1 K47_6 [(17, .string s), (16, .bool true), (12, .bool false), (0, .string s)] w (by kernel_rfl) ?_
 have := byteAt_bounds s 0
 refine J.ok (OK.byte 18 9 s (0 : Int) (byteAt s 0) (by kernel_rfl) (by kernel_rfl) (by omega) (by omega) (rfl)) ?_
 refine J.run 4 K47_7 [(22, .bool (decide ((byteAt s 0) ≤ 57))), (0, .string s)] w (by kernel_rfl) ?_
 by_cases fk4 : (byteAt s 0) ≤ 57
 ·skip
  refine J.head (.bool true) (congrArg Value.bool (decide_eq_true fk4)) ?_
  refine J.run 10 K47_8 [(2, .bool false)] w (by kernel_rfl) ?_
  refine J.ret Try.f47 [.bool false] Try.func47 ⟨by kernel_rfl, trivial⟩ ?_
  refine hR _ _ ?_
  exact ⟨congrArg Value.bool (name_no (by first | omega | (right; right; left; first | assumption | (simp [letterB]; omega)))).symm, S0.nil⟩
 refine J.head (.bool false) (congrArg Value.bool (decide_eq_false fk4)) ?_
 refine J.run 1 K47_9 [(23, .string s), (22, .bool false), (0, .string s)] w (by kernel_rfl) ?_
 have := byteAt_bounds s 0
 refine J.ok (OK.byte 24 9 s (0 : Int) (byteAt s 0) (by kernel_rfl) (by kernel_rfl) (by omega) (by omega) (rfl)) ?_
 refine J.run 3 K47_10 [(26, .bool ((byteAt s 0) == 95)), (0, .string s)] w (by kernel_rfl) ?_
 by_cases fk5 : (byteAt s 0) = 95
 ·skip
  refine J.head (.bool true) (congrArg Value.bool (beq_iff_eq.2 fk5)) ?_
  refine J.run 5 K47_11 [(2, .bool false)] w (by kernel_rfl) ?_
  refine J.ret Try.f47 [.bool false] Try.func47 ⟨by kernel_rfl, trivial⟩ ?_
  refine hR _ _ ?_
  exact ⟨congrArg Value.bool (name_no (by first | omega | (right; right; left; first | assumption | (simp [letterB]; omega)))).symm, S0.nil⟩
 refine J.head (.bool false) (congrArg Value.bool (beq_eq_false_iff_ne.2 fk5)) ?_
 refine J.run 11 K47_12 [(29, .int .i64 0), (28, .int .i64 (s.size : Int)), (0, .string s)] w (by kernel_rfl) ?_
 have L47_1 : ∀ (mm_ : Nat) (i : Int) (w1 : World), (0 ≤ i) → (i ≤ (s.size : Int)) → (∀ j, j < (i).toNat → partB (byteAt s j) = true) → Sep w [] w1 → ((s.size : Int) - i).toNat = mm_ → J Try.prog 47 47 R K47_12 [(29, .int .i64 i), (28, .int .i64 (s.size : Int)), (0, .string s)] w1 := by
  intro mm1
  induction mm1 using Nat.strongRecOn with
  | _ mm1 ih1 =>
  intro i w1 h0 h1 hq S1 hm1
  refine J.run 5 K47_13 [(30, .bool (decide (i < (s.size : Int)))), (29, .int .i64 i), (28, .int .i64 (s.size : Int)), (0, .string s)] w1 (by kernel_rfl) ?_
  by_cases fk6 : i < (s.size : Int)
  ·skip
   refine J.head (.bool true) (congrArg Value.bool (decide_eq_true fk6)) ?_
   refine J.run 13 K47_14 [(33, .int .i64 i), (32, .string s), (29, .int .i64 i), (28, .int .i64 (s.size : Int)), (0, .string s)] w1 (by kernel_rfl) ?_
   have := byteAt_bounds s (i).toNat
   refine J.ok (OK.byte 34 9 s i (byteAt s (i).toNat) (by kernel_rfl) (by kernel_rfl) (by omega) (by omega) (rfl)) ?_
   refine J.callF 35 52 #[.int .u8 (byteAt s (i).toNat)] hb52 (by kernel_rfl) (plain_any (byteAt s (i).toNat) _) ?_
   rintro _ w2 ⟨rfl, T1⟩
   have S2 : Sep w [] w2 := S1.trans T1
   clear T1 S1
   refine J.run 2 K47_15 [(36, .bool (!(partB (byteAt s (i).toNat)))), (29, .int .i64 i), (28, .int .i64 (s.size : Int)), (0, .string s)] w2 (by kernel_rfl) ?_
   rcases Bool.eq_false_or_eq_true (partB (byteAt s (i).toNat)) with fk7 | fk7
   rotate_left
   ·skip
    refine J.head (.bool true) (congrArg Value.bool (by rw [fk7]; rfl)) ?_
    refine J.run 5 K47_17 [(2, .bool false)] w2 (by kernel_rfl) ?_
    refine J.ret Try.f47 [.bool false] Try.func47 ⟨by kernel_rfl, trivial⟩ ?_
    refine hR _ _ ?_
    exact ⟨congrArg Value.bool (name_bad h0 (by omega) fk7).symm, S2.nil⟩
   refine J.head (.bool false) (congrArg Value.bool (by rw [fk7]; rfl)) ?_
   refine J.run 5 K47_16 [(37, .int .i64 (IntKind.wrap .i64 (i + 1))), (28, .int .i64 (s.size : Int)), (0, .string s)] w2 (by kernel_rfl) ?_
   refine J.head (.int .i64 (i + 1)) (congrArg (Value.int .i64) (IntWalk.i64_in _ (by omega))) ?_
   refine J.run 3 K47_12 [(29, .int .i64 (i + 1)), (28, .int .i64 (s.size : Int)), (0, .string s)] w2 (by kernel_rfl) ?_
   refine J.run 0 K47_12 [(29, .int .i64 (i + 1)), (28, .int .i64 (s.size : Int)), (0, .string s)] w2 (by kernel_rfl) ?_
   exact ih1 _ (show ((s.size : Int) - (i + 1)).toNat < mm1 from by omega) (i + 1) w2 (by omega) (by omega) (name_step hq h0 fk7) S2 rfl
  refine J.head (.bool false) (congrArg Value.bool (decide_eq_false fk6)) ?_
  have hlet : letterB (byteAt s 0) = true := letter0 (by omega) (by assumption) (hq 0 (by omega))
  refine J.run 14 K47_18 [(39, .bool (s.toList == (⟨#[115, 116, 97, 116, 101, 115]⟩ : ByteArray).toList)), (38, .string s)] w1 (by kernel_rfl) ?_
  rcases Bool.eq_false_or_eq_true (s.toList == (⟨#[115, 116, 97, 116, 101, 115]⟩ : ByteArray).toList) with fk8 | fk8
  ·skip
   refine J.head (.bool true) (congrArg Value.bool fk8) ?_
   refine J.run 7 K47_19 [(2, .bool false)] w1 (by kernel_rfl) ?_
   refine J.ret Try.f47 [.bool false] Try.func47 ⟨by kernel_rfl, trivial⟩ ?_
   refine hR _ _ ?_
   exact ⟨congrArg Value.bool (name_no (.inr (.inr (.inr (by simp only [keyB, keysW, eqT, List.any_cons, List.any_nil, Bool.or_false, Bool.or_true, Bool.true_or, Bool.false_or, fk1, fk2, fk3, fk4, fk5, fk6, fk8]))))).symm, S1.nil⟩
  refine J.head (.bool false) (congrArg Value.bool fk8) ?_
  refine J.run 6 K47_20 [(39, .bool (s.toList == (⟨#[105, 110, 112, 117, 116, 115]⟩ : ByteArray).toList)), (38, .string s)] w1 (by kernel_rfl) ?_
  rcases Bool.eq_false_or_eq_true (s.toList == (⟨#[105, 110, 112, 117, 116, 115]⟩ : ByteArray).toList) with fk9 | fk9
  ·skip
   refine J.head (.bool true) (congrArg Value.bool fk9) ?_
   refine J.run 7 K47_21 [(2, .bool false)] w1 (by kernel_rfl) ?_
   refine J.ret Try.f47 [.bool false] Try.func47 ⟨by kernel_rfl, trivial⟩ ?_
   refine hR _ _ ?_
   exact ⟨congrArg Value.bool (name_no (.inr (.inr (.inr (by simp only [keyB, keysW, eqT, List.any_cons, List.any_nil, Bool.or_false, Bool.or_true, Bool.true_or, Bool.false_or, fk1, fk2, fk3, fk4, fk5, fk6, fk8, fk9]))))).symm, S1.nil⟩
  refine J.head (.bool false) (congrArg Value.bool fk9) ?_
  refine J.run 6 K47_22 [(39, .bool (s.toList == (⟨#[115, 116, 97, 114, 116]⟩ : ByteArray).toList)), (38, .string s)] w1 (by kernel_rfl) ?_
  rcases Bool.eq_false_or_eq_true (s.toList == (⟨#[115, 116, 97, 114, 116]⟩ : ByteArray).toList) with fk10 | fk10
  ·skip
   refine J.head (.bool true) (congrArg Value.bool fk10) ?_
   refine J.run 7 K47_23 [(2, .bool false)] w1 (by kernel_rfl) ?_
   refine J.ret Try.f47 [.bool false] Try.func47 ⟨by kernel_rfl, trivial⟩ ?_
   refine hR _ _ ?_
   exact ⟨congrArg Value.bool (name_no (.inr (.inr (.inr (by simp only [keyB, keysW, eqT, List.any_cons, List.any_nil, Bool.or_false, Bool.or_true, Bool.true_or, Bool.false_or, fk1, fk2, fk3, fk4, fk5, fk6, fk8, fk9, fk10]))))).symm, S1.nil⟩
  refine J.head (.bool false) (congrArg Value.bool fk10) ?_
  refine J.run 6 K47_24 [(39, .bool (s.toList == (⟨#[116, 111]⟩ : ByteArray).toList)), (38, .string s)] w1 (by kernel_rfl) ?_
  rcases Bool.eq_false_or_eq_true (s.toList == (⟨#[116, 111]⟩ : ByteArray).toList) with fk11 | fk11
  ·skip
   refine J.head (.bool true) (congrArg Value.bool fk11) ?_
   refine J.run 7 K47_25 [(2, .bool false)] w1 (by kernel_rfl) ?_
   refine J.ret Try.f47 [.bool false] Try.func47 ⟨by kernel_rfl, trivial⟩ ?_
   refine hR _ _ ?_
   exact ⟨congrArg Value.bool (name_no (.inr (.inr (.inr (by simp only [keyB, keysW, eqT, List.any_cons, List.any_nil, Bool.or_false, Bool.or_true, Bool.true_or, Bool.false_or, fk1, fk2, fk3, fk4, fk5, fk6, fk8, fk9, fk10, fk11]))))).symm, S1.nil⟩
  refine J.head (.bool false) (congrArg Value.bool fk11) ?_
  refine J.run 6 K47_26 [(39, .bool (s.toList == (⟨#[105, 102]⟩ : ByteArray).toList)), (38, .string s)] w1 (by kernel_rfl) ?_
  rcases Bool.eq_false_or_eq_true (s.toList == (⟨#[105, 102]⟩ : ByteArray).toList) with fk12 | fk12
  ·skip
   refine J.head (.bool true) (congrArg Value.bool fk12) ?_
   refine J.run 7 K47_27 [(2, .bool false)] w1 (by kernel_rfl) ?_
   refine J.ret Try.f47 [.bool false] Try.func47 ⟨by kernel_rfl, trivial⟩ ?_
   refine hR _ _ ?_
   exact ⟨congrArg Value.bool (name_no (.inr (.inr (.inr (by simp only [keyB, keysW, eqT, List.any_cons, List.any_nil, Bool.or_false, Bool.or_true, Bool.true_or, Bool.false_or, fk1, fk2, fk3, fk4, fk5, fk6, fk8, fk9, fk10, fk11, fk12]))))).symm, S1.nil⟩
  refine J.head (.bool false) (congrArg Value.bool fk12) ?_
  refine J.run 6 K47_28 [(39, .bool (s.toList == (⟨#[110, 111, 116]⟩ : ByteArray).toList)), (38, .string s)] w1 (by kernel_rfl) ?_
  rcases Bool.eq_false_or_eq_true (s.toList == (⟨#[110, 111, 116]⟩ : ByteArray).toList) with fk13 | fk13
  ·skip
   refine J.head (.bool true) (congrArg Value.bool fk13) ?_
   refine J.run 7 K47_29 [(2, .bool false)] w1 (by kernel_rfl) ?_
   refine J.ret Try.f47 [.bool false] Try.func47 ⟨by kernel_rfl, trivial⟩ ?_
   refine hR _ _ ?_
   exact ⟨congrArg Value.bool (name_no (.inr (.inr (.inr (by simp only [keyB, keysW, eqT, List.any_cons, List.any_nil, Bool.or_false, Bool.or_true, Bool.true_or, Bool.false_or, fk1, fk2, fk3, fk4, fk5, fk6, fk8, fk9, fk10, fk11, fk12, fk13]))))).symm, S1.nil⟩
  refine J.head (.bool false) (congrArg Value.bool fk13) ?_
  refine J.run 5 K47_30 [(39, .bool (s.toList == (⟨#[97, 102, 116, 101, 114]⟩ : ByteArray).toList))] w1 (by kernel_rfl) ?_
  rcases Bool.eq_false_or_eq_true (s.toList == (⟨#[97, 102, 116, 101, 114]⟩ : ByteArray).toList) with fk14 | fk14
  ·skip
   refine J.head (.bool true) (congrArg Value.bool fk14) ?_
   refine J.run 5 K47_31 [(2, .bool false)] w1 (by kernel_rfl) ?_
   refine J.ret Try.f47 [.bool false] Try.func47 ⟨by kernel_rfl, trivial⟩ ?_
   refine hR _ _ ?_
   exact ⟨congrArg Value.bool (name_no (.inr (.inr (.inr (by simp only [keyB, keysW, eqT, List.any_cons, List.any_nil, Bool.or_false, Bool.or_true, Bool.true_or, Bool.false_or, fk1, fk2, fk3, fk4, fk5, fk6, fk8, fk9, fk10, fk11, fk12, fk13, fk14]))))).symm, S1.nil⟩
  refine J.head (.bool false) (congrArg Value.bool fk14) ?_
  refine J.run 7 K47_32 [(2, .bool true)] w1 (by kernel_rfl) ?_
  refine J.ret Try.f47 [.bool true] Try.func47 ⟨by kernel_rfl, trivial⟩ ?_
  refine hR _ _ ?_
  exact ⟨congrArg Value.bool (name_yes (by omega) (by omega) hlet (fun j hj => hq j (by omega)) (by simp only [keyB, keysW, eqT, List.any_cons, List.any_nil, Bool.or_false, Bool.or_true, Bool.true_or, Bool.false_or, fk1, fk2, fk3, fk4, fk5, fk6, fk8, fk9, fk10, fk11, fk12, fk13, fk14])).symm, S1.nil⟩
 exact L47_1 _ 0 w (by omega) (by omega) (by intro j hj; simp at hj) S0 rfl

theorem hb37 : HasBody Try.prog 37 := fun _ _ => by kernel_rfl
def K37_0 := adv 13 [] (bodyOf Try.f37)
def K37_1 := adv 5 [] K37_0
def K37_2 := adv 7 [true] K37_1
def K37_3 := adv 6 [] (popK (popK K37_2))
def K37_4 := adv 2 [] (popK K37_3)
def K37_5 := adv 2 [] K37_4
def K37_6 := adv 1 [] (popK K37_5)
def K37_7 := adv 2 [] (popK K37_6)
def K37_8 := adv 5 [true] K37_7
def K37_9 := adv 5 [false] K37_7
def K37_10 := adv 12 [true] K37_4
def K37_11 := adv 6 [false] K37_1
set_option maxRecDepth 20000 in
set_option maxHeartbeats 20000000 in
theorem names_any (la : Option Addr) (len cap : Nat) (l : List ByteArray) (w : World) (hI : Ones Value.string w la len l) (hlen : len ≤ 9223372036854775807) (hcp : len ≤ cap ∧ cap ≤ 9223372036854775807) (hsz : ∀ b ∈ l, b.size ≤ 9223372036854775807) : Ret Try.prog 37 #[.slice la len cap] w (fun v w' => v = .bool (namesB l) ∧ Sep w [] w') := by
 have S0 := Sep.refl w
 refine Ret.named fun R hR => ?_
 refine Ret.of_J (N := 23) [(0, .slice la len cap)] Try.func37 rfl rfl (Nat.le_of_ble_eq_true (by kernel_rfl)) (by kernel_rfl) ?_
 refine J.run 13 K37_0 [(7, .int .i64 0), (6, .int .i64 (len : Int)), (5, .slice la len cap), (0, .slice la len cap)] w (by kernel_rfl) ?_
 have L37_1 : ∀ (mm_ : Nat) (i : Int) (w1 : World), (0 ≤ i) → (i ≤ (len : Int)) → (∀ j, j < (i).toNat → nameB (l.getD j ByteArray.empty) = true ∧ (l.take j).any (eqT (l.getD j ByteArray.empty)) = false) → Sep w [] w1 → ((len : Int) - i).toNat = mm_ → J Try.prog 37 23 R K37_0 [(7, .int .i64 i), (6, .int .i64 (len : Int)), (5, .slice la len cap), (0, .slice la len cap)] w1 := by
  intro mm1
  induction mm1 using Nat.strongRecOn with
  | _ mm1 ih1 =>
  intro i w1 h0 h1 hq S1 hm1
  refine J.run 5 K37_1 [(8, .bool (decide (i < (len : Int)))), (7, .int .i64 i), (6, .int .i64 (len : Int)), (5, .slice la len cap), (0, .slice la len cap)] w1 (by kernel_rfl) ?_
  by_cases fk1 : i < (len : Int)
  rotate_left
  ·skip
   refine J.head (.bool false) (congrArg Value.bool (decide_eq_false fk1)) ?_
   refine J.run 6 K37_11 [(2, .bool true)] w1 (by kernel_rfl) ?_
   refine J.ret Try.f37 [.bool true] Try.func37 ⟨by kernel_rfl, trivial⟩ ?_
   refine hR _ _ ?_
   exact ⟨congrArg Value.bool (names_yes fun j hj => hq j (by have := hI.len_eq; omega)).symm, S1.nil⟩
  refine J.head (.bool true) (congrArg Value.bool (decide_eq_true fk1)) ?_
  refine J.run 7 K37_2 [(9, .int .i64 i), (7, .int .i64 i), (6, .int .i64 (len : Int)), (5, .slice la len cap), (0, .slice la len cap)] w1 (by kernel_rfl) ?_
  obtain ⟨p1, hp1, hc1⟩ := hI.at ByteArray.empty (i).toNat (by omega)
  have hel1 := getD_Q hsz ByteArray.empty (n := (i).toNat) (by have := hI.len_eq; omega)
  refine J.ok (OK.index 10 22 1 la p1 len (i).toNat i (p1.add (i).toNat) (by kernel_rfl) (by kernel_rfl) hp1 (by omega) (by omega) (by rw [Nat.mul_one])) ?_
  refine J.ok (OK.ldCell 11 9 (p1.add (i).toNat) (.string (l.getD (i).toNat ByteArray.empty)) (by kernel_rfl) (by kernel_rfl) (S1.cell hc1)) ?_
  refine J.run 6 K37_3 [(12, .string (l.getD (i).toNat ByteArray.empty)), (4, .string (l.getD (i).toNat ByteArray.empty)), (3, .int .i64 i), (7, .int .i64 i), (6, .int .i64 (len : Int)), (5, .slice la len cap), (0, .slice la len cap)] w1 (by kernel_rfl) ?_
  refine J.callF 13 47 #[.string (l.getD (i).toNat ByteArray.empty)] hb47 (by kernel_rfl) (name_any (l.getD (i).toNat ByteArray.empty) _ (by first | omega | decide)) ?_
  rintro _ w2 ⟨rfl, T1⟩
  have S2 : Sep w [] w2 := S1.trans T1
  clear T1 S1
  refine J.run 2 K37_4 [(15, .bool (!(nameB (l.getD (i).toNat ByteArray.empty)))), (4, .string (l.getD (i).toNat ByteArray.empty)), (3, .int .i64 i), (7, .int .i64 i), (6, .int .i64 (len : Int)), (5, .slice la len cap), (0, .slice la len cap)] w2 (by kernel_rfl) ?_
  rcases Bool.eq_false_or_eq_true (nameB (l.getD (i).toNat ByteArray.empty)) with fk2 | fk2
  rotate_left
  ·skip
   refine J.head (.bool true) (congrArg Value.bool (by rw [fk2]; rfl)) ?_
   refine J.run 12 K37_10 [(2, .bool false)] w2 (by kernel_rfl) ?_
   refine J.ret Try.f37 [.bool false] Try.func37 ⟨by kernel_rfl, trivial⟩ ?_
   refine hR _ _ ?_
   exact ⟨congrArg Value.bool (names_bad h0 (by have := hI.len_eq; omega) (.inl fk2)).symm, S2.nil⟩
  refine J.head (.bool false) (congrArg Value.bool (by rw [fk2]; rfl)) ?_
  refine J.run 2 K37_5 [(17, .int .i64 i), (16, .slice la len cap), (15, .bool false), (4, .string (l.getD (i).toNat ByteArray.empty)), (7, .int .i64 i), (6, .int .i64 (len : Int)), (5, .slice la len cap), (0, .slice la len cap)] w2 (by kernel_rfl) ?_
  refine J.ok (OK.slice 18 22 1 la len cap none (some (.int .i64 i)) 0 ((i).toNat) (by kernel_rfl) (by kernel_rfl) (.inl ⟨rfl, rfl⟩) (.inr ⟨_, _, rfl, by omega⟩) (by first | omega | (simp; omega)) (by first | omega | (simp; omega))) ?_
  refine J.head (.slice la ((i).toNat) cap) (by rw [subA_zero]; try rfl) ?_
  refine J.run 1 K37_6 [(19, .string (l.getD (i).toNat ByteArray.empty)), (18, .slice la ((i).toNat) cap), (15, .bool false), (7, .int .i64 i), (6, .int .i64 (len : Int)), (5, .slice la len cap), (0, .slice la len cap)] w2 (by kernel_rfl) ?_
  refine J.callF 20 48 #[.slice la ((i).toNat) cap, .string (l.getD (i).toNat ByteArray.empty)] hb48 (by kernel_rfl) (containsS la ((i).toNat) cap (l.take ((i).toNat)) (l.getD (i).toNat ByteArray.empty) _ ((hI.sep S2).take ((i).toNat) (by first | omega | (simp; omega))) (by first | omega | (simp; omega))) ?_
  rintro _ w3 ⟨rfl, T2⟩
  have S3 : Sep w [] w3 := S2.trans T2
  clear T2 S2
  refine J.run 2 K37_7 [(21, .bool (List.any (l.take ((i).toNat)) (eqT (l.getD (i).toNat ByteArray.empty)))), (7, .int .i64 i), (6, .int .i64 (len : Int)), (5, .slice la len cap), (0, .slice la len cap)] w3 (by kernel_rfl) ?_
  rcases Bool.eq_false_or_eq_true (List.any (l.take ((i).toNat)) (eqT (l.getD (i).toNat ByteArray.empty))) with fk3 | fk3
  ·skip
   refine J.head (.bool true) (congrArg Value.bool fk3) ?_
   refine J.run 5 K37_8 [(2, .bool false)] w3 (by kernel_rfl) ?_
   refine J.ret Try.f37 [.bool false] Try.func37 ⟨by kernel_rfl, trivial⟩ ?_
   refine hR _ _ ?_
   exact ⟨congrArg Value.bool (names_bad h0 (by have := hI.len_eq; omega) (.inr fk3)).symm, S3.nil⟩
  refine J.head (.bool false) (congrArg Value.bool fk3) ?_
  refine J.run 5 K37_9 [(22, .int .i64 (IntKind.wrap .i64 (i + 1))), (6, .int .i64 (len : Int)), (5, .slice la len cap), (0, .slice la len cap)] w3 (by kernel_rfl) ?_
  refine J.head (.int .i64 (i + 1)) (congrArg (Value.int .i64) (IntWalk.i64_in _ (by omega))) ?_
  refine J.run 3 K37_0 [(7, .int .i64 (i + 1)), (6, .int .i64 (len : Int)), (5, .slice la len cap), (0, .slice la len cap)] w3 (by kernel_rfl) ?_
  refine J.run 0 K37_0 [(7, .int .i64 (i + 1)), (6, .int .i64 (len : Int)), (5, .slice la len cap), (0, .slice la len cap)] w3 (by kernel_rfl) ?_
  exact ih1 _ (show ((len : Int) - (i + 1)).toNat < mm1 from by omega) (i + 1) w3 (by omega) (by omega) (names_step hq h0 fk2 fk3) S3 rfl
 exact L37_1 _ 0 w (by omega) (by omega) (by intro j hj; simp at hj) S0 rfl

theorem hb15 : HasBody Try.prog 15 := fun _ _ => by kernel_rfl
def K15_0 := adv 13 [] (bodyOf Try.f15)
def K15_1 := adv 5 [] K15_0
def K15_2 := adv 14 [true] K15_1
def K15_3 := adv 1 [] (popK (popK (popK K15_2)))
def K15_4 := adv 6 [true] K15_3
def K15_5 := adv 5 [false] K15_3
def K15_6 := adv 6 [false] K15_1
set_option maxRecDepth 20000 in
set_option maxHeartbeats 20000000 in
theorem indexMv (la : Option Addr) (len cap : Nat) (l : List Mv) (g : FuncId) (c1 : Value) (c2 : Value) (q : Mv → Bool) (w : World) (hI : Recs mvE 5 w la len l) (hlen : len ≤ 9223372036854775807) (hbg : HasBody Try.prog g) (hcall : ∀ (i : Nat) (w2 : World), i < l.length → Sep w [] w2 → Ret Try.prog g #[.agg #[.int .i64 ((l.getD i (⟨0, 0, 0, 0, 0⟩ : Mv)).gFrom), .int .i64 ((l.getD i (⟨0, 0, 0, 0, 0⟩ : Mv)).gTo), .int .i64 ((l.getD i (⟨0, 0, 0, 0, 0⟩ : Mv)).gOn), .int .i64 ((l.getD i (⟨0, 0, 0, 0, 0⟩ : Mv)).gOff), .int .i64 ((l.getD i (⟨0, 0, 0, 0, 0⟩ : Mv)).gAfter)], c1, c2] w2 (fun v w3 => v = .bool (q (l.getD i (⟨0, 0, 0, 0, 0⟩ : Mv))) ∧ Sep w2 [] w3)) : Ret Try.prog 15 #[.slice la len cap, .func (.func g) #[] #[c1, c2]] w (fun v w' => v = .int .i64 (indexF q l) ∧ Sep w [] w') := by
 have S0 := Sep.refl w
 refine Ret.named fun R hR => ?_
 refine Ret.of_J (N := 19) [(0, .slice la len cap), (1, .func (.func g) #[] #[c1, c2])] Try.func15 rfl rfl (Nat.le_of_ble_eq_true (by kernel_rfl)) (by kernel_rfl) ?_
 refine J.run 13 K15_0 [(8, .int .i64 0), (7, .int .i64 (len : Int)), (0, .slice la len cap), (1, .func (.func g) #[] #[c1, c2])] w (by kernel_rfl) ?_
 have L15_1 : ∀ (mm_ : Nat) (i : Int) (w1 : World), (0 ≤ i) → (i ≤ (len : Int)) → (∀ j, j < (i).toNat → q (l.getD j (⟨0, 0, 0, 0, 0⟩ : Mv)) = false) → Sep w [] w1 → ((len : Int) - i).toNat = mm_ → J Try.prog 15 19 R K15_0 [(8, .int .i64 i), (7, .int .i64 (len : Int)), (0, .slice la len cap), (1, .func (.func g) #[] #[c1, c2])] w1 := by
  intro mm1
  induction mm1 using Nat.strongRecOn with
  | _ mm1 ih1 =>
  intro i w1 h0 h1 hq S1 hm1
  refine J.run 5 K15_1 [(9, .bool (decide (i < (len : Int)))), (8, .int .i64 i), (7, .int .i64 (len : Int)), (0, .slice la len cap), (1, .func (.func g) #[] #[c1, c2])] w1 (by kernel_rfl) ?_
  by_cases fk1 : i < (len : Int)
  rotate_left
  ·skip
   refine J.head (.bool false) (congrArg Value.bool (decide_eq_false fk1)) ?_
   refine J.run 6 K15_6 [(4, .int .i64 (-1))] w1 (by kernel_rfl) ?_
   refine J.ret Try.f15 [.int .i64 (-1)] Try.func15 ⟨by kernel_rfl, trivial⟩ ?_
   refine hR _ _ ?_
   exact ⟨by rw [tup_one, indexF_none (⟨0, 0, 0, 0, 0⟩ : Mv) fun j hj => hq j (by have := hI.len_eq; omega)], S1.nil⟩
  refine J.head (.bool true) (congrArg Value.bool (decide_eq_true fk1)) ?_
  refine J.run 14 K15_2 [(13, .int .i64 i), (12, .slice la len cap), (11, .func (.func g) #[] #[c1, c2]), (5, .int .i64 i), (8, .int .i64 i), (7, .int .i64 (len : Int)), (0, .slice la len cap), (1, .func (.func g) #[] #[c1, c2])] w1 (by kernel_rfl) ?_
  obtain ⟨p1, hp1, hc1⟩ := hI.at (⟨0, 0, 0, 0, 0⟩ : Mv) (i).toNat (by omega)
  refine J.ok (OK.index 14 23 5 la p1 len (i).toNat i (p1.add ((i).toNat * 5)) (by kernel_rfl) (by kernel_rfl) hp1 (by omega) (by omega) rfl) ?_
  refine J.ok (OK.ldCells 15 42 (p1.add ((i).toNat * 5)) [.int .i64 ((l.getD (i).toNat (⟨0, 0, 0, 0, 0⟩ : Mv)).gFrom), .int .i64 ((l.getD (i).toNat (⟨0, 0, 0, 0, 0⟩ : Mv)).gTo), .int .i64 ((l.getD (i).toNat (⟨0, 0, 0, 0, 0⟩ : Mv)).gOn), .int .i64 ((l.getD (i).toNat (⟨0, 0, 0, 0, 0⟩ : Mv)).gOff), .int .i64 ((l.getD (i).toNat (⟨0, 0, 0, 0, 0⟩ : Mv)).gAfter)] (by kernel_rfl) (by kernel_rfl) (by kernel_rfl) (fun j_ v_ hj_ => S1.cell (hc1 j_ v_ hj_))) ?_
  refine J.callF 16 g #[.agg #[.int .i64 ((l.getD (i).toNat (⟨0, 0, 0, 0, 0⟩ : Mv)).gFrom), .int .i64 ((l.getD (i).toNat (⟨0, 0, 0, 0, 0⟩ : Mv)).gTo), .int .i64 ((l.getD (i).toNat (⟨0, 0, 0, 0, 0⟩ : Mv)).gOn), .int .i64 ((l.getD (i).toNat (⟨0, 0, 0, 0, 0⟩ : Mv)).gOff), .int .i64 ((l.getD (i).toNat (⟨0, 0, 0, 0, 0⟩ : Mv)).gAfter)], c1, c2] hbg (by kernel_rfl) (hcall (i).toNat w1 (by have := hI.len_eq; omega) S1.nil) ?_
  rintro _ w2 ⟨rfl, T1⟩
  have S2 : Sep w [] w2 := S1.trans T1
  clear T1 S1
  refine J.run 1 K15_3 [(16, .bool (q (l.getD (i).toNat (⟨0, 0, 0, 0, 0⟩ : Mv)))), (5, .int .i64 i), (8, .int .i64 i), (7, .int .i64 (len : Int)), (0, .slice la len cap), (1, .func (.func g) #[] #[c1, c2])] w2 (by kernel_rfl) ?_
  rcases Bool.eq_false_or_eq_true (q (l.getD (i).toNat (⟨0, 0, 0, 0, 0⟩ : Mv))) with fk2 | fk2
  ·skip
   refine J.head (.bool true) (congrArg Value.bool fk2) ?_
   refine J.run 6 K15_4 [(4, .int .i64 i)] w2 (by kernel_rfl) ?_
   refine J.ret Try.f15 [.int .i64 i] Try.func15 ⟨by kernel_rfl, trivial⟩ ?_
   refine hR _ _ ?_
   exact ⟨by rw [tup_one, indexF_some (⟨0, 0, 0, 0, 0⟩ : Mv) i.toNat (by have := hI.len_eq; omega) hq fk2, Int.toNat_of_nonneg h0], S2.nil⟩
  refine J.head (.bool false) (congrArg Value.bool fk2) ?_
  refine J.run 5 K15_5 [(18, .int .i64 (IntKind.wrap .i64 (i + 1))), (7, .int .i64 (len : Int)), (0, .slice la len cap), (1, .func (.func g) #[] #[c1, c2])] w2 (by kernel_rfl) ?_
  refine J.head (.int .i64 (i + 1)) (congrArg (Value.int .i64) (IntWalk.i64_in _ (by omega))) ?_
  refine J.run 3 K15_0 [(8, .int .i64 (i + 1)), (7, .int .i64 (len : Int)), (0, .slice la len cap), (1, .func (.func g) #[] #[c1, c2])] w2 (by kernel_rfl) ?_
  refine J.run 0 K15_0 [(8, .int .i64 (i + 1)), (7, .int .i64 (len : Int)), (0, .slice la len cap), (1, .func (.func g) #[] #[c1, c2])] w2 (by kernel_rfl) ?_
  exact ih1 _ (show ((len : Int) - (i + 1)).toNat < mm1 from by omega) (i + 1) w2 (by omega) (by omega) (by intro j hj; by_cases e : j = i.toNat; (subst e; exact fk2); exact hq j (by omega)) S2 rfl
 exact L15_1 _ 0 w (by omega) (by omega) (by intro j hj; simp at hj) S0 rfl

theorem hb38 : HasBody Try.prog 38 := fun _ _ => by kernel_rfl
def K38_0 := adv 8 [] (bodyOf Try.f38)
def K38_1 := adv 3 [] (popK K38_0)
set_option maxRecDepth 20000 in
set_option maxHeartbeats 20000000 in
theorem containsMv (la : Option Addr) (len cap : Nat) (l : List Mv) (g : FuncId) (c1 : Value) (c2 : Value) (q : Mv → Bool) (w : World) (hI : Recs mvE 5 w la len l) (hlen : len ≤ 9223372036854775807) (hbg : HasBody Try.prog g) (hcall : ∀ (i : Nat) (w2 : World), i < l.length → Sep w [] w2 → Ret Try.prog g #[.agg #[.int .i64 ((l.getD i (⟨0, 0, 0, 0, 0⟩ : Mv)).gFrom), .int .i64 ((l.getD i (⟨0, 0, 0, 0, 0⟩ : Mv)).gTo), .int .i64 ((l.getD i (⟨0, 0, 0, 0, 0⟩ : Mv)).gOn), .int .i64 ((l.getD i (⟨0, 0, 0, 0, 0⟩ : Mv)).gOff), .int .i64 ((l.getD i (⟨0, 0, 0, 0, 0⟩ : Mv)).gAfter)], c1, c2] w2 (fun v w3 => v = .bool (q (l.getD i (⟨0, 0, 0, 0, 0⟩ : Mv))) ∧ Sep w2 [] w3)) : Ret Try.prog 38 #[.slice la len cap, .func (.func g) #[] #[c1, c2]] w (fun v w' => v = .bool (l.any q) ∧ Sep w [] w') := by
 have S0 := Sep.refl w
 refine Ret.named fun R hR => ?_
 refine Ret.of_J (N := 9) [(0, .slice la len cap), (1, .func (.func g) #[] #[c1, c2])] Try.func38 rfl rfl (Nat.le_of_ble_eq_true (by kernel_rfl)) (by kernel_rfl) ?_
 refine J.run 8 K38_0 [(6, .func (.func g) #[] #[c1, c2]), (5, .slice la len cap)] w (by kernel_rfl) ?_
 refine J.callF 7 15 #[.slice la len cap, .func (.func g) #[] #[c1, c2]] hb15 (by kernel_rfl) (indexMv la len cap l g c1 c2 q _ (hI.sep S0) (by first | omega | (simp; omega)) hbg (hcall)) ?_
 rintro _ w1 ⟨rfl, T1⟩
 have S1 : Sep w [] w1 := S0.trans T1
 clear T1
 refine J.run 3 K38_1 [(4, .bool (decide ((indexF q l) ≥ 0)))] w1 (by kernel_rfl) ?_
 refine J.ret Try.f38 [.bool (decide ((indexF q l) ≥ 0))] Try.func38 ⟨by kernel_rfl, trivial⟩ ?_
 refine hR _ _ ?_
 exact ⟨congrArg Value.bool (by first | exact indexF_nonneg), S1.nil⟩

theorem hb39 : HasBody Try.prog 39 := fun _ _ => by kernel_rfl
def K39_0 := adv 2 [] (bodyOf Try.f39)
def K39_1 := adv 5 [] (popK K39_0)
def K39_2 := adv 2 [] (popK K39_1)
def K39_3 := adv 58 [] K39_2
def K39_4 := adv 1 [] K39_2
def K39_5 := adv 3 [] (popK (popK K39_4))
def K39_6 := adv 52 [] K39_5
def K39_7 := adv 1 [] K39_5
def K39_8 := adv 3 [] (popK K39_7)
def K39_9 := adv 47 [] K39_8
def K39_10 := adv 1 [] K39_8
def K39_11 := adv 3 [] (popK (popK K39_10))
def K39_12 := adv 41 [] K39_11
def K39_13 := adv 1 [] K39_11
def K39_14 := adv 3 [] (popK K39_13)
def K39_15 := adv 36 [] K39_14
def K39_16 := adv 1 [] K39_14
def K39_17 := adv 3 [] (popK (popK K39_16))
def K39_18 := adv 30 [] K39_17
def K39_19 := adv 1 [] K39_17
def K39_20 := adv 3 [] (popK K39_19)
def K39_21 := adv 25 [] K39_20
def K39_22 := adv 1 [] K39_20
def K39_23 := adv 3 [] (popK (popK K39_22))
def K39_24 := adv 19 [] K39_23
def K39_25 := adv 1 [] K39_23
def K39_26 := adv 1 [] (popK K39_25)
def K39_27 := adv 1 [] (popK K39_26)
def K39_28 := adv 3 [] K39_27
def K39_29 := adv 1 [] K39_28
def K39_30 := adv 3 [] (popK K39_29)
def K39_31 := adv 6 [] K39_30
def K39_32 := adv 1 [] K39_30
def K39_33 := adv 4 [] (popK K39_32)
def K39_34 := adv 11 [] K39_28
set_option maxRecDepth 20000 in
set_option maxHeartbeats 20000000 in
theorem valid1_any (n all : Int) (bx1 bx2 : Nat) (m : Mv) (w : World) (hb1 : (box bx1 [.int .i64 n] 3).holds w) (hb2 : (box bx2 [.int .i64 all] 3).holds w) : Ret Try.prog 39 #[.agg #[.int .i64 m.gFrom, .int .i64 m.gTo, .int .i64 m.gOn, .int .i64 m.gOff, .int .i64 m.gAfter], .pointer (some ⟨bx1, 0, none⟩), .pointer (some ⟨bx2, 0, none⟩)] w (fun v w' => v = .bool (!mvB n all m) ∧ Sep w [] w') := by
 have S0 := Sep.refl w
 refine Ret.named fun R hR => ?_
 refine Ret.of_J (N := 65) [(0, .agg #[.int .i64 m.gFrom, .int .i64 m.gTo, .int .i64 m.gOn, .int .i64 m.gOff, .int .i64 m.gAfter]), (1, .pointer (some ⟨bx1, 0, none⟩)), (2, .pointer (some ⟨bx2, 0, none⟩))] Try.func39 rfl rfl (Nat.le_of_ble_eq_true (by kernel_rfl)) (by kernel_rfl) ?_
 refine J.run 2 K39_0 [(0, .agg #[.int .i64 m.gFrom, .int .i64 m.gTo, .int .i64 m.gOn, .int .i64 m.gOff, .int .i64 m.gAfter]), (1, .pointer (some ⟨bx1, 0, none⟩)), (2, .pointer (some ⟨bx2, 0, none⟩))] w (by kernel_rfl) ?_
 refine J.new S0 3 [.int .i64 m.gFrom, .int .i64 m.gTo, .int .i64 m.gOn, .int .i64 m.gOff, .int .i64 m.gAfter] 42 (by kernel_rfl) ?_
 intro b1 w1 S1
 refine J.run 5 K39_1 [(5, .pointer (some ⟨b1, 0, none⟩)), (3, .pointer (some ⟨b1, 0, none⟩)), (1, .pointer (some ⟨bx1, 0, none⟩)), (2, .pointer (some ⟨bx2, 0, none⟩))] w1 (by kernel_rfl) ?_
 refine J.ok (OK.ldBox S1 0 6 3 0 (.int .i64 m.gFrom) (by kernel_rfl) rfl (by kernel_rfl)) ?_
 refine J.run 2 K39_2 [(8, .bool (decide (m.gFrom < 0))), (3, .pointer (some ⟨b1, 0, none⟩)), (1, .pointer (some ⟨bx1, 0, none⟩)), (2, .pointer (some ⟨bx2, 0, none⟩))] w1 (by kernel_rfl) ?_
 by_cases fk1 : m.gFrom < 0
 ·skip
  refine J.head (.bool true) (congrArg Value.bool (decide_eq_true fk1)) ?_
  refine J.run 58 K39_3 [(4, .bool true)] w1 (by kernel_rfl) ?_
  refine J.ret Try.f39 [.bool true] Try.func39 ⟨by kernel_rfl, trivial⟩ ?_
  refine hR _ _ ?_
  exact ⟨congrArg Value.bool (by rw [Bool.eq_iff_iff]; simp [mvB]; omega), S1.nil⟩
 refine J.head (.bool false) (congrArg Value.bool (decide_eq_false fk1)) ?_
 refine J.run 1 K39_4 [(9, .pointer (some ⟨b1, 0, none⟩)), (8, .bool false), (3, .pointer (some ⟨b1, 0, none⟩)), (1, .pointer (some ⟨bx1, 0, none⟩)), (2, .pointer (some ⟨bx2, 0, none⟩))] w1 (by kernel_rfl) ?_
 refine J.ok (OK.ldBox S1 0 10 3 0 (.int .i64 m.gFrom) (by kernel_rfl) rfl (by kernel_rfl)) ?_
 refine J.ok (OK.ldRo S1 hb1 11 3 0 (.int .i64 n) (by kernel_rfl) (by kernel_rfl)) ?_
 refine J.run 3 K39_5 [(14, .bool (decide (m.gFrom ≥ n))), (3, .pointer (some ⟨b1, 0, none⟩)), (1, .pointer (some ⟨bx1, 0, none⟩)), (2, .pointer (some ⟨bx2, 0, none⟩))] w1 (by kernel_rfl) ?_
 by_cases fk2 : m.gFrom ≥ n
 ·skip
  refine J.head (.bool true) (congrArg Value.bool (decide_eq_true fk2)) ?_
  refine J.run 52 K39_6 [(4, .bool true)] w1 (by kernel_rfl) ?_
  refine J.ret Try.f39 [.bool true] Try.func39 ⟨by kernel_rfl, trivial⟩ ?_
  refine hR _ _ ?_
  exact ⟨congrArg Value.bool (by rw [Bool.eq_iff_iff]; simp [mvB]; omega), S1.nil⟩
 refine J.head (.bool false) (congrArg Value.bool (decide_eq_false fk2)) ?_
 refine J.run 1 K39_7 [(15, .pointer (some ⟨b1, 1, none⟩)), (14, .bool false), (3, .pointer (some ⟨b1, 0, none⟩)), (1, .pointer (some ⟨bx1, 0, none⟩)), (2, .pointer (some ⟨bx2, 0, none⟩))] w1 (by kernel_rfl) ?_
 refine J.ok (OK.ldBox S1 0 16 3 1 (.int .i64 m.gTo) (by kernel_rfl) rfl (by kernel_rfl)) ?_
 refine J.run 3 K39_8 [(19, .bool (decide (m.gTo < 0))), (3, .pointer (some ⟨b1, 0, none⟩)), (1, .pointer (some ⟨bx1, 0, none⟩)), (2, .pointer (some ⟨bx2, 0, none⟩))] w1 (by kernel_rfl) ?_
 by_cases fk3 : m.gTo < 0
 ·skip
  refine J.head (.bool true) (congrArg Value.bool (decide_eq_true fk3)) ?_
  refine J.run 47 K39_9 [(4, .bool true)] w1 (by kernel_rfl) ?_
  refine J.ret Try.f39 [.bool true] Try.func39 ⟨by kernel_rfl, trivial⟩ ?_
  refine hR _ _ ?_
  exact ⟨congrArg Value.bool (by rw [Bool.eq_iff_iff]; simp [mvB]; omega), S1.nil⟩
 refine J.head (.bool false) (congrArg Value.bool (decide_eq_false fk3)) ?_
 refine J.run 1 K39_10 [(20, .pointer (some ⟨b1, 1, none⟩)), (19, .bool false), (3, .pointer (some ⟨b1, 0, none⟩)), (1, .pointer (some ⟨bx1, 0, none⟩)), (2, .pointer (some ⟨bx2, 0, none⟩))] w1 (by kernel_rfl) ?_
 refine J.ok (OK.ldBox S1 0 21 3 1 (.int .i64 m.gTo) (by kernel_rfl) rfl (by kernel_rfl)) ?_
 refine J.ok (OK.ldRo S1 hb1 22 3 0 (.int .i64 n) (by kernel_rfl) (by kernel_rfl)) ?_
 refine J.run 3 K39_11 [(25, .bool (decide (m.gTo ≥ n))), (3, .pointer (some ⟨b1, 0, none⟩)), (2, .pointer (some ⟨bx2, 0, none⟩))] w1 (by kernel_rfl) ?_
 by_cases fk4 : m.gTo ≥ n
 ·skip
  refine J.head (.bool true) (congrArg Value.bool (decide_eq_true fk4)) ?_
  refine J.run 41 K39_12 [(4, .bool true)] w1 (by kernel_rfl) ?_
  refine J.ret Try.f39 [.bool true] Try.func39 ⟨by kernel_rfl, trivial⟩ ?_
  refine hR _ _ ?_
  exact ⟨congrArg Value.bool (by rw [Bool.eq_iff_iff]; simp [mvB]; omega), S1.nil⟩
 refine J.head (.bool false) (congrArg Value.bool (decide_eq_false fk4)) ?_
 refine J.run 1 K39_13 [(26, .pointer (some ⟨b1, 2, none⟩)), (25, .bool false), (3, .pointer (some ⟨b1, 0, none⟩)), (2, .pointer (some ⟨bx2, 0, none⟩))] w1 (by kernel_rfl) ?_
 refine J.ok (OK.ldBox S1 0 27 3 2 (.int .i64 m.gOn) (by kernel_rfl) rfl (by kernel_rfl)) ?_
 refine J.run 3 K39_14 [(30, .bool (decide (m.gOn < 0))), (3, .pointer (some ⟨b1, 0, none⟩)), (2, .pointer (some ⟨bx2, 0, none⟩))] w1 (by kernel_rfl) ?_
 by_cases fk5 : m.gOn < 0
 ·skip
  refine J.head (.bool true) (congrArg Value.bool (decide_eq_true fk5)) ?_
  refine J.run 36 K39_15 [(4, .bool true)] w1 (by kernel_rfl) ?_
  refine J.ret Try.f39 [.bool true] Try.func39 ⟨by kernel_rfl, trivial⟩ ?_
  refine hR _ _ ?_
  exact ⟨congrArg Value.bool (by rw [Bool.eq_iff_iff]; simp [mvB]; omega), S1.nil⟩
 refine J.head (.bool false) (congrArg Value.bool (decide_eq_false fk5)) ?_
 refine J.run 1 K39_16 [(31, .pointer (some ⟨b1, 2, none⟩)), (30, .bool false), (3, .pointer (some ⟨b1, 0, none⟩)), (2, .pointer (some ⟨bx2, 0, none⟩))] w1 (by kernel_rfl) ?_
 refine J.ok (OK.ldBox S1 0 32 3 2 (.int .i64 m.gOn) (by kernel_rfl) rfl (by kernel_rfl)) ?_
 refine J.ok (OK.ldRo S1 hb2 33 3 0 (.int .i64 all) (by kernel_rfl) (by kernel_rfl)) ?_
 refine J.run 3 K39_17 [(36, .bool (decide (m.gOn > all))), (3, .pointer (some ⟨b1, 0, none⟩)), (2, .pointer (some ⟨bx2, 0, none⟩))] w1 (by kernel_rfl) ?_
 by_cases fk6 : m.gOn > all
 ·skip
  refine J.head (.bool true) (congrArg Value.bool (decide_eq_true fk6)) ?_
  refine J.run 30 K39_18 [(4, .bool true)] w1 (by kernel_rfl) ?_
  refine J.ret Try.f39 [.bool true] Try.func39 ⟨by kernel_rfl, trivial⟩ ?_
  refine hR _ _ ?_
  exact ⟨congrArg Value.bool (by rw [Bool.eq_iff_iff]; simp [mvB]; omega), S1.nil⟩
 refine J.head (.bool false) (congrArg Value.bool (decide_eq_false fk6)) ?_
 refine J.run 1 K39_19 [(37, .pointer (some ⟨b1, 3, none⟩)), (36, .bool false), (3, .pointer (some ⟨b1, 0, none⟩)), (2, .pointer (some ⟨bx2, 0, none⟩))] w1 (by kernel_rfl) ?_
 refine J.ok (OK.ldBox S1 0 38 3 3 (.int .i64 m.gOff) (by kernel_rfl) rfl (by kernel_rfl)) ?_
 refine J.run 3 K39_20 [(41, .bool (decide (m.gOff < 0))), (3, .pointer (some ⟨b1, 0, none⟩)), (2, .pointer (some ⟨bx2, 0, none⟩))] w1 (by kernel_rfl) ?_
 by_cases fk7 : m.gOff < 0
 ·skip
  refine J.head (.bool true) (congrArg Value.bool (decide_eq_true fk7)) ?_
  refine J.run 25 K39_21 [(4, .bool true)] w1 (by kernel_rfl) ?_
  refine J.ret Try.f39 [.bool true] Try.func39 ⟨by kernel_rfl, trivial⟩ ?_
  refine hR _ _ ?_
  exact ⟨congrArg Value.bool (by rw [Bool.eq_iff_iff]; simp [mvB]; omega), S1.nil⟩
 refine J.head (.bool false) (congrArg Value.bool (decide_eq_false fk7)) ?_
 refine J.run 1 K39_22 [(42, .pointer (some ⟨b1, 3, none⟩)), (41, .bool false), (3, .pointer (some ⟨b1, 0, none⟩)), (2, .pointer (some ⟨bx2, 0, none⟩))] w1 (by kernel_rfl) ?_
 refine J.ok (OK.ldBox S1 0 43 3 3 (.int .i64 m.gOff) (by kernel_rfl) rfl (by kernel_rfl)) ?_
 refine J.ok (OK.ldRo S1 hb2 44 3 0 (.int .i64 all) (by kernel_rfl) (by kernel_rfl)) ?_
 refine J.run 3 K39_23 [(47, .bool (decide (m.gOff > all))), (3, .pointer (some ⟨b1, 0, none⟩))] w1 (by kernel_rfl) ?_
 by_cases fk8 : m.gOff > all
 ·skip
  refine J.head (.bool true) (congrArg Value.bool (decide_eq_true fk8)) ?_
  refine J.run 19 K39_24 [(4, .bool true)] w1 (by kernel_rfl) ?_
  refine J.ret Try.f39 [.bool true] Try.func39 ⟨by kernel_rfl, trivial⟩ ?_
  refine hR _ _ ?_
  exact ⟨congrArg Value.bool (by rw [Bool.eq_iff_iff]; simp [mvB]; omega), S1.nil⟩
 refine J.head (.bool false) (congrArg Value.bool (decide_eq_false fk8)) ?_
 refine J.run 1 K39_25 [(48, .pointer (some ⟨b1, 2, none⟩)), (47, .bool false), (3, .pointer (some ⟨b1, 0, none⟩))] w1 (by kernel_rfl) ?_
 refine J.ok (OK.ldBox S1 0 49 3 2 (.int .i64 m.gOn) (by kernel_rfl) rfl (by kernel_rfl)) ?_
 refine J.run 1 K39_26 [(50, .pointer (some ⟨b1, 3, none⟩)), (49, .int .i64 m.gOn), (47, .bool false), (3, .pointer (some ⟨b1, 0, none⟩))] w1 (by kernel_rfl) ?_
 refine J.ok (OK.ldBox S1 0 51 3 3 (.int .i64 m.gOff) (by kernel_rfl) rfl (by kernel_rfl)) ?_
 refine J.run 1 K39_27 [(52, .int .i64 (IntKind.wrap .i64 ((BitVec.ofInt 64 m.gOn &&& (BitVec.ofInt 64 m.gOff)).toNat : Int))), (47, .bool false), (3, .pointer (some ⟨b1, 0, none⟩))] w1 (by kernel_rfl) ?_
 refine J.head (.int .i64 (andF m.gOn m.gOff)) (congrArg (Value.int .i64) rfl) ?_
 refine J.run 3 K39_28 [(55, .bool ((andF m.gOn m.gOff) != 0)), (3, .pointer (some ⟨b1, 0, none⟩))] w1 (by kernel_rfl) ?_
 by_cases fk9 : (andF m.gOn m.gOff) = 0
 rotate_left
 ·skip
  refine J.head (.bool true) (congrArg Value.bool (bne_iff_ne.2 fk9)) ?_
  refine J.run 11 K39_34 [(4, .bool true)] w1 (by kernel_rfl) ?_
  refine J.ret Try.f39 [.bool true] Try.func39 ⟨by kernel_rfl, trivial⟩ ?_
  refine hR _ _ ?_
  exact ⟨congrArg Value.bool (by rw [Bool.eq_iff_iff]; simp [mvB]; omega), S1.nil⟩
 refine J.head (.bool false) (congrArg Value.bool (bne_eq_false_iff_eq.2 fk9)) ?_
 refine J.run 1 K39_29 [(56, .pointer (some ⟨b1, 4, none⟩)), (55, .bool false), (3, .pointer (some ⟨b1, 0, none⟩))] w1 (by kernel_rfl) ?_
 refine J.ok (OK.ldBox S1 0 57 3 4 (.int .i64 m.gAfter) (by kernel_rfl) rfl (by kernel_rfl)) ?_
 refine J.run 3 K39_30 [(60, .bool (decide (m.gAfter < 0))), (3, .pointer (some ⟨b1, 0, none⟩))] w1 (by kernel_rfl) ?_
 by_cases fk10 : m.gAfter < 0
 ·skip
  refine J.head (.bool true) (congrArg Value.bool (decide_eq_true fk10)) ?_
  refine J.run 6 K39_31 [(4, .bool true)] w1 (by kernel_rfl) ?_
  refine J.ret Try.f39 [.bool true] Try.func39 ⟨by kernel_rfl, trivial⟩ ?_
  refine hR _ _ ?_
  exact ⟨congrArg Value.bool (by rw [Bool.eq_iff_iff]; simp [mvB]; omega), S1.nil⟩
 refine J.head (.bool false) (congrArg Value.bool (decide_eq_false fk10)) ?_
 refine J.run 1 K39_32 [(61, .pointer (some ⟨b1, 4, none⟩)), (60, .bool false)] w1 (by kernel_rfl) ?_
 refine J.ok (OK.ldBox S1 0 62 3 4 (.int .i64 m.gAfter) (by kernel_rfl) rfl (by kernel_rfl)) ?_
 refine J.run 4 K39_33 [(4, .bool (decide (m.gAfter > 1000)))] w1 (by kernel_rfl) ?_
 refine J.ret Try.f39 [.bool (decide (m.gAfter > 1000))] Try.func39 ⟨by kernel_rfl, trivial⟩ ?_
 refine hR _ _ ?_
 exact ⟨congrArg Value.bool (by rw [Bool.eq_iff_iff]; simp [mvB]; omega), S1.nil⟩

theorem hb19 : HasBody Try.prog 19 := fun _ _ => by kernel_rfl
def K19_0 := adv 2 [] (bodyOf Try.f19)
def K19_1 := adv 5 [] (popK K19_0)
def K19_2 := adv 1 [] (popK K19_1)
def K19_3 := adv 4 [] (popK (popK K19_2))
def K19_4 := adv 2 [] (popK K19_3)
def K19_5 := adv 44 [true] K19_4
def K19_6 := adv 3 [] (popK K19_4)
def K19_7 := adv 40 [true] K19_6
def K19_8 := adv 1 [] K19_6
def K19_9 := adv 4 [] (popK K19_8)
def K19_10 := adv 34 [true] K19_9
def K19_11 := adv 1 [] K19_9
def K19_12 := adv 3 [] (popK (popK K19_11))
def K19_13 := adv 1 [] K19_12
def K19_14 := adv 3 [] (popK (popK K19_13))
def K19_15 := adv 1 [] K19_14
def K19_16 := adv 3 [] (popK K19_15)
def K19_17 := adv 17 [true] K19_16
def K19_18 := adv 1 [] K19_16
def K19_19 := adv 3 [] (popK (popK K19_18))
def K19_20 := adv 11 [true] K19_19
def K19_21 := adv 1 [] K19_19
def K19_22 := adv 4 [] (popK K19_21)
def K19_23 := adv 5 [true] K19_22
def K19_24 := adv 5 [false] K19_22
def K19_25 := adv 1 [] (popK K19_24)
def K19_26 := adv 1 [] (popK K19_25)
def K19_27 := adv 4 [] (popK (popK K19_26))
def K19_28 := adv 1 [] (popK K19_27)
def K19_29 := adv 3 [] (popK K19_28)
def K19_30 := adv 22 [true] K19_14
def K19_31 := adv 28 [true] K19_12
set_option maxRecDepth 20000 in
set_option maxHeartbeats 20000000 in
theorem valid_any (c : Cht) (w : World) (hc : chtQ w c) : Ret Try.prog 19 #[.agg #[.slice c.gStates_a c.gStates_n c.gStates_c, .slice c.gInputs_a c.gInputs_n c.gInputs_c, .int .i64 c.gStart, .slice c.gMoves_a c.gMoves_n c.gMoves_c]] w (fun v w' => v = .bool (validC c) ∧ Sep w [] w') := by
 have S0 := Sep.refl w
 refine Ret.named fun R hR => ?_
 refine Ret.of_J (N := 59) [(0, .agg #[.slice c.gStates_a c.gStates_n c.gStates_c, .slice c.gInputs_a c.gInputs_n c.gInputs_c, .int .i64 c.gStart, .slice c.gMoves_a c.gMoves_n c.gMoves_c])] Try.func19 rfl rfl (Nat.le_of_ble_eq_true (by kernel_rfl)) (by kernel_rfl) ?_
 obtain ⟨q1, q2, q3, q4, q5, q6, q7, q8, q9, q10, _⟩ := id hc
 have ql1 := q2.len_eq
 have ql2 := q5.len_eq
 have ql3 := q9.len_eq
 refine J.run 2 K19_0 [(0, .agg #[.slice c.gStates_a c.gStates_n c.gStates_c, .slice c.gInputs_a c.gInputs_n c.gInputs_c, .int .i64 c.gStart, .slice c.gMoves_a c.gMoves_n c.gMoves_c])] w (by kernel_rfl) ?_
 refine J.new S0 1 [.slice c.gStates_a c.gStates_n c.gStates_c, .slice c.gInputs_a c.gInputs_n c.gInputs_c, .int .i64 c.gStart, .slice c.gMoves_a c.gMoves_n c.gMoves_c] 25 (by kernel_rfl) ?_
 intro b1 w1 S1
 refine J.run 5 K19_1 [(5, .pointer (some ⟨b1, 0, none⟩)), (1, .pointer (some ⟨b1, 0, none⟩))] w1 (by kernel_rfl) ?_
 refine J.ok (OK.ldBox S1 0 6 22 0 (.slice c.gStates_a c.gStates_n c.gStates_c) (by kernel_rfl) rfl (by kernel_rfl)) ?_
 refine J.run 1 K19_2 [(7, .int .i64 (c.gStates_n : Int)), (1, .pointer (some ⟨b1, 0, none⟩))] w1 (by kernel_rfl) ?_
 refine J.new S1 3 [.int .i64 0] 3 (by kernel_rfl) ?_
 intro b2 w2 S2
 refine J.stBox S2 0 3 0 (.int .i64 (c.gStates_n : Int)) [.int .i64 (c.gStates_n : Int)] [box b2 [.int .i64 (c.gStates_n : Int)] 3, box b1 [.slice c.gStates_a c.gStates_n c.gStates_c, .slice c.gInputs_a c.gInputs_n c.gInputs_c, .int .i64 c.gStart, .slice c.gMoves_a c.gMoves_n c.gMoves_c] 25] (by kernel_rfl) rfl (by kernel_rfl) (by kernel_rfl) rfl ?_
 intro w3 S3
 refine J.run 4 K19_3 [(3, .pointer (some ⟨b2, 0, none⟩)), (1, .pointer (some ⟨b1, 0, none⟩))] w3 (by kernel_rfl) ?_
 refine J.ok (OK.ldBox S3 0 8 3 0 (.int .i64 (c.gStates_n : Int)) (by kernel_rfl) rfl (by kernel_rfl)) ?_
 refine J.run 2 K19_4 [(10, .bool (decide ((c.gStates_n : Int) < 1))), (3, .pointer (some ⟨b2, 0, none⟩)), (1, .pointer (some ⟨b1, 0, none⟩))] w3 (by kernel_rfl) ?_
 by_cases fk1 : (c.gStates_n : Int) < 1
 ·skip
  refine J.head (.bool true) (congrArg Value.bool (decide_eq_true fk1)) ?_
  refine J.run 44 K19_5 [(2, .bool false)] w3 (by kernel_rfl) ?_
  refine J.ret Try.f19 [.bool false] Try.func19 ⟨by kernel_rfl, trivial⟩ ?_
  refine hR _ _ ?_
  exact ⟨congrArg Value.bool (by rw [Bool.eq_iff_iff]; first | (simp [validC, maskF, any_not_all, fk1]; done) | (simp [validC, maskF, any_not_all, fk1]; omega) | (simp [validC, maskF, fk1]; intros; omega)), S3.nil⟩
 refine J.head (.bool false) (congrArg Value.bool (decide_eq_false fk1)) ?_
 refine J.ok (OK.ldBox S3 0 11 3 0 (.int .i64 (c.gStates_n : Int)) (by kernel_rfl) rfl (by kernel_rfl)) ?_
 refine J.run 3 K19_6 [(14, .bool (decide ((c.gStates_n : Int) > 20))), (3, .pointer (some ⟨b2, 0, none⟩)), (1, .pointer (some ⟨b1, 0, none⟩))] w3 (by kernel_rfl) ?_
 by_cases fk2 : (c.gStates_n : Int) > 20
 ·skip
  refine J.head (.bool true) (congrArg Value.bool (decide_eq_true fk2)) ?_
  refine J.run 40 K19_7 [(2, .bool false)] w3 (by kernel_rfl) ?_
  refine J.ret Try.f19 [.bool false] Try.func19 ⟨by kernel_rfl, trivial⟩ ?_
  refine hR _ _ ?_
  exact ⟨congrArg Value.bool (by rw [Bool.eq_iff_iff]; first | (simp [validC, maskF, any_not_all, fk1, fk2]; done) | (simp [validC, maskF, any_not_all, fk1, fk2]; omega) | (simp [validC, maskF, fk1, fk2]; intros; omega)), S3.nil⟩
 refine J.head (.bool false) (congrArg Value.bool (decide_eq_false fk2)) ?_
 refine J.run 1 K19_8 [(15, .pointer (some ⟨b1, 1, none⟩)), (14, .bool false), (3, .pointer (some ⟨b2, 0, none⟩)), (1, .pointer (some ⟨b1, 0, none⟩))] w3 (by kernel_rfl) ?_
 refine J.ok (OK.ldBox S3 1 16 22 1 (.slice c.gInputs_a c.gInputs_n c.gInputs_c) (by kernel_rfl) rfl (by kernel_rfl)) ?_
 refine J.run 4 K19_9 [(20, .bool (decide ((c.gInputs_n : Int) > 10))), (3, .pointer (some ⟨b2, 0, none⟩)), (1, .pointer (some ⟨b1, 0, none⟩))] w3 (by kernel_rfl) ?_
 by_cases fk3 : (c.gInputs_n : Int) > 10
 ·skip
  refine J.head (.bool true) (congrArg Value.bool (decide_eq_true fk3)) ?_
  refine J.run 34 K19_10 [(2, .bool false)] w3 (by kernel_rfl) ?_
  refine J.ret Try.f19 [.bool false] Try.func19 ⟨by kernel_rfl, trivial⟩ ?_
  refine hR _ _ ?_
  exact ⟨congrArg Value.bool (by rw [Bool.eq_iff_iff]; first | (simp [validC, maskF, any_not_all, fk1, fk2, fk3]; done) | (simp [validC, maskF, any_not_all, fk1, fk2, fk3]; omega) | (simp [validC, maskF, fk1, fk2, fk3]; intros; omega)), S3.nil⟩
 refine J.head (.bool false) (congrArg Value.bool (decide_eq_false fk3)) ?_
 refine J.run 1 K19_11 [(21, .pointer (some ⟨b1, 0, none⟩)), (20, .bool false), (3, .pointer (some ⟨b2, 0, none⟩)), (1, .pointer (some ⟨b1, 0, none⟩))] w3 (by kernel_rfl) ?_
 refine J.ok (OK.ldBox S3 1 22 22 0 (.slice c.gStates_a c.gStates_n c.gStates_c) (by kernel_rfl) rfl (by kernel_rfl)) ?_
 refine J.callF 23 37 #[.slice c.gStates_a c.gStates_n c.gStates_c] hb37 (by kernel_rfl) (names_any c.gStates_a c.gStates_n c.gStates_c c.gStates_l _ (q2.sep S3) (by omega) (by omega) q3) ?_
 rintro _ w4 ⟨rfl, T1⟩
 have S4 : Sep w [box b2 [.int .i64 (c.gStates_n : Int)] 3, box b1 [.slice c.gStates_a c.gStates_n c.gStates_c, .slice c.gInputs_a c.gInputs_n c.gInputs_c, .int .i64 c.gStart, .slice c.gMoves_a c.gMoves_n c.gMoves_c] 25] w4 := S3.trans T1
 clear T1 S3
 refine J.run 3 K19_12 [(26, .bool (!(namesB c.gStates_l))), (3, .pointer (some ⟨b2, 0, none⟩)), (1, .pointer (some ⟨b1, 0, none⟩))] w4 (by kernel_rfl) ?_
 rcases Bool.eq_false_or_eq_true (namesB c.gStates_l) with fk4 | fk4
 rotate_left
 ·skip
  refine J.head (.bool true) (congrArg Value.bool (by rw [fk4]; rfl)) ?_
  refine J.run 28 K19_31 [(2, .bool false)] w4 (by kernel_rfl) ?_
  refine J.ret Try.f19 [.bool false] Try.func19 ⟨by kernel_rfl, trivial⟩ ?_
  refine hR _ _ ?_
  exact ⟨congrArg Value.bool (by rw [Bool.eq_iff_iff]; first | (simp [validC, maskF, any_not_all, fk1, fk2, fk3, fk4]; done) | (simp [validC, maskF, any_not_all, fk1, fk2, fk3, fk4]; omega) | (simp [validC, maskF, fk1, fk2, fk3, fk4]; intros; omega)), S4.nil⟩
 refine J.head (.bool false) (congrArg Value.bool (by rw [fk4]; rfl)) ?_
 refine J.run 1 K19_13 [(27, .pointer (some ⟨b1, 1, none⟩)), (26, .bool false), (3, .pointer (some ⟨b2, 0, none⟩)), (1, .pointer (some ⟨b1, 0, none⟩))] w4 (by kernel_rfl) ?_
 refine J.ok (OK.ldBox S4 1 28 22 1 (.slice c.gInputs_a c.gInputs_n c.gInputs_c) (by kernel_rfl) rfl (by kernel_rfl)) ?_
 refine J.callF 29 37 #[.slice c.gInputs_a c.gInputs_n c.gInputs_c] hb37 (by kernel_rfl) (names_any c.gInputs_a c.gInputs_n c.gInputs_c c.gInputs_l _ (q5.sep S4) (by omega) (by omega) q6) ?_
 rintro _ w5 ⟨rfl, T2⟩
 have S5 : Sep w [box b2 [.int .i64 (c.gStates_n : Int)] 3, box b1 [.slice c.gStates_a c.gStates_n c.gStates_c, .slice c.gInputs_a c.gInputs_n c.gInputs_c, .int .i64 c.gStart, .slice c.gMoves_a c.gMoves_n c.gMoves_c] 25] w5 := S4.trans T2
 clear T2 S4
 refine J.run 3 K19_14 [(32, .bool (!(namesB c.gInputs_l))), (3, .pointer (some ⟨b2, 0, none⟩)), (1, .pointer (some ⟨b1, 0, none⟩))] w5 (by kernel_rfl) ?_
 rcases Bool.eq_false_or_eq_true (namesB c.gInputs_l) with fk5 | fk5
 rotate_left
 ·skip
  refine J.head (.bool true) (congrArg Value.bool (by rw [fk5]; rfl)) ?_
  refine J.run 22 K19_30 [(2, .bool false)] w5 (by kernel_rfl) ?_
  refine J.ret Try.f19 [.bool false] Try.func19 ⟨by kernel_rfl, trivial⟩ ?_
  refine hR _ _ ?_
  exact ⟨congrArg Value.bool (by rw [Bool.eq_iff_iff]; first | (simp [validC, maskF, any_not_all, fk1, fk2, fk3, fk4, fk5]; done) | (simp [validC, maskF, any_not_all, fk1, fk2, fk3, fk4, fk5]; omega) | (simp [validC, maskF, fk1, fk2, fk3, fk4, fk5]; intros; omega)), S5.nil⟩
 refine J.head (.bool false) (congrArg Value.bool (by rw [fk5]; rfl)) ?_
 refine J.run 1 K19_15 [(33, .pointer (some ⟨b1, 2, none⟩)), (32, .bool false), (3, .pointer (some ⟨b2, 0, none⟩)), (1, .pointer (some ⟨b1, 0, none⟩))] w5 (by kernel_rfl) ?_
 refine J.ok (OK.ldBox S5 1 34 3 2 (.int .i64 c.gStart) (by kernel_rfl) rfl (by kernel_rfl)) ?_
 refine J.run 3 K19_16 [(37, .bool (decide (c.gStart < 0))), (3, .pointer (some ⟨b2, 0, none⟩)), (1, .pointer (some ⟨b1, 0, none⟩))] w5 (by kernel_rfl) ?_
 by_cases fk6 : c.gStart < 0
 ·skip
  refine J.head (.bool true) (congrArg Value.bool (decide_eq_true fk6)) ?_
  refine J.run 17 K19_17 [(2, .bool false)] w5 (by kernel_rfl) ?_
  refine J.ret Try.f19 [.bool false] Try.func19 ⟨by kernel_rfl, trivial⟩ ?_
  refine hR _ _ ?_
  exact ⟨congrArg Value.bool (by rw [Bool.eq_iff_iff]; first | (simp [validC, maskF, any_not_all, fk1, fk2, fk3, fk4, fk5, fk6]; done) | (simp [validC, maskF, any_not_all, fk1, fk2, fk3, fk4, fk5, fk6]; omega) | (simp [validC, maskF, fk1, fk2, fk3, fk4, fk5, fk6]; intros; omega)), S5.nil⟩
 refine J.head (.bool false) (congrArg Value.bool (decide_eq_false fk6)) ?_
 refine J.run 1 K19_18 [(38, .pointer (some ⟨b1, 2, none⟩)), (37, .bool false), (3, .pointer (some ⟨b2, 0, none⟩)), (1, .pointer (some ⟨b1, 0, none⟩))] w5 (by kernel_rfl) ?_
 refine J.ok (OK.ldBox S5 1 39 3 2 (.int .i64 c.gStart) (by kernel_rfl) rfl (by kernel_rfl)) ?_
 refine J.ok (OK.ldBox S5 0 40 3 0 (.int .i64 (c.gStates_n : Int)) (by kernel_rfl) rfl (by kernel_rfl)) ?_
 refine J.run 3 K19_19 [(43, .bool (decide (c.gStart ≥ (c.gStates_n : Int)))), (3, .pointer (some ⟨b2, 0, none⟩)), (1, .pointer (some ⟨b1, 0, none⟩))] w5 (by kernel_rfl) ?_
 by_cases fk7 : c.gStart ≥ (c.gStates_n : Int)
 ·skip
  refine J.head (.bool true) (congrArg Value.bool (decide_eq_true fk7)) ?_
  refine J.run 11 K19_20 [(2, .bool false)] w5 (by kernel_rfl) ?_
  refine J.ret Try.f19 [.bool false] Try.func19 ⟨by kernel_rfl, trivial⟩ ?_
  refine hR _ _ ?_
  exact ⟨congrArg Value.bool (by rw [Bool.eq_iff_iff]; first | (simp [validC, maskF, any_not_all, fk1, fk2, fk3, fk4, fk5, fk6, fk7]; done) | (simp [validC, maskF, any_not_all, fk1, fk2, fk3, fk4, fk5, fk6, fk7]; omega) | (simp [validC, maskF, fk1, fk2, fk3, fk4, fk5, fk6, fk7]; intros; omega)), S5.nil⟩
 refine J.head (.bool false) (congrArg Value.bool (decide_eq_false fk7)) ?_
 refine J.run 1 K19_21 [(44, .pointer (some ⟨b1, 3, none⟩)), (43, .bool false), (3, .pointer (some ⟨b2, 0, none⟩)), (1, .pointer (some ⟨b1, 0, none⟩))] w5 (by kernel_rfl) ?_
 refine J.ok (OK.ldBox S5 1 45 23 3 (.slice c.gMoves_a c.gMoves_n c.gMoves_c) (by kernel_rfl) rfl (by kernel_rfl)) ?_
 refine J.run 4 K19_22 [(48, .bool (decide ((c.gMoves_n : Int) > 100))), (3, .pointer (some ⟨b2, 0, none⟩)), (1, .pointer (some ⟨b1, 0, none⟩))] w5 (by kernel_rfl) ?_
 by_cases fk8 : (c.gMoves_n : Int) > 100
 ·skip
  refine J.head (.bool true) (congrArg Value.bool (decide_eq_true fk8)) ?_
  refine J.run 5 K19_23 [(2, .bool false)] w5 (by kernel_rfl) ?_
  refine J.ret Try.f19 [.bool false] Try.func19 ⟨by kernel_rfl, trivial⟩ ?_
  refine hR _ _ ?_
  exact ⟨congrArg Value.bool (by rw [Bool.eq_iff_iff]; first | (simp [validC, maskF, any_not_all, fk1, fk2, fk3, fk4, fk5, fk6, fk7, fk8]; done) | (simp [validC, maskF, any_not_all, fk1, fk2, fk3, fk4, fk5, fk6, fk7, fk8]; omega) | (simp [validC, maskF, fk1, fk2, fk3, fk4, fk5, fk6, fk7, fk8]; intros; omega)), S5.nil⟩
 refine J.head (.bool false) (congrArg Value.bool (decide_eq_false fk8)) ?_
 refine J.run 5 K19_24 [(49, .pointer (some ⟨b1, 1, none⟩)), (3, .pointer (some ⟨b2, 0, none⟩)), (1, .pointer (some ⟨b1, 0, none⟩))] w5 (by kernel_rfl) ?_
 refine J.ok (OK.ldBox S5 1 50 22 1 (.slice c.gInputs_a c.gInputs_n c.gInputs_c) (by kernel_rfl) rfl (by kernel_rfl)) ?_
 refine J.run 1 K19_25 [(51, .int .i64 (c.gInputs_n : Int)), (3, .pointer (some ⟨b2, 0, none⟩)), (1, .pointer (some ⟨b1, 0, none⟩))] w5 (by kernel_rfl) ?_
 have := pow10 (n := c.gInputs_n) (by omega)
 refine J.ok (OK.shl 52 .i64 1 (c.gInputs_n : Int) (2 ^ c.gInputs_n) (by kernel_rfl) (by omega) (shl_one rfl (by omega))) ?_
 refine J.run 1 K19_26 [(53, .int .i64 (IntKind.wrap .i64 ((2 ^ c.gInputs_n) - 1))), (3, .pointer (some ⟨b2, 0, none⟩)), (1, .pointer (some ⟨b1, 0, none⟩))] w5 (by kernel_rfl) ?_
 refine J.head (.int .i64 ((2 ^ c.gInputs_n) - 1)) (congrArg (Value.int .i64) (IntWalk.i64_in _ (by omega))) ?_
 refine J.new S5 4 [.int .i64 0] 3 (by kernel_rfl) ?_
 intro b3 w6 S6
 refine J.stBox S6 0 3 0 (.int .i64 ((2 ^ c.gInputs_n) - 1)) [.int .i64 ((2 ^ c.gInputs_n) - 1)] [box b3 [.int .i64 ((2 ^ c.gInputs_n) - 1)] 3, box b2 [.int .i64 (c.gStates_n : Int)] 3, box b1 [.slice c.gStates_a c.gStates_n c.gStates_c, .slice c.gInputs_a c.gInputs_n c.gInputs_c, .int .i64 c.gStart, .slice c.gMoves_a c.gMoves_n c.gMoves_c] 25] (by kernel_rfl) rfl (by kernel_rfl) (by kernel_rfl) rfl ?_
 intro w7 S7
 refine J.run 4 K19_27 [(54, .pointer (some ⟨b1, 3, none⟩)), (4, .pointer (some ⟨b3, 0, none⟩)), (3, .pointer (some ⟨b2, 0, none⟩))] w7 (by kernel_rfl) ?_
 refine J.ok (OK.ldBox S7 2 55 23 3 (.slice c.gMoves_a c.gMoves_n c.gMoves_c) (by kernel_rfl) rfl (by kernel_rfl)) ?_
 refine J.run 1 K19_28 [(56, .func (.func 39) #[] #[.pointer (some ⟨b2, 0, none⟩), .pointer (some ⟨b3, 0, none⟩)]), (55, .slice c.gMoves_a c.gMoves_n c.gMoves_c)] w7 (by kernel_rfl) ?_
 refine J.callF 57 38 #[.slice c.gMoves_a c.gMoves_n c.gMoves_c, .func (.func 39) #[] #[.pointer (some ⟨b2, 0, none⟩), .pointer (some ⟨b3, 0, none⟩)]] hb38 (by kernel_rfl) (containsMv c.gMoves_a c.gMoves_n c.gMoves_c c.gMoves_l 39 (.pointer (some ⟨b2, 0, none⟩)) (.pointer (some ⟨b3, 0, none⟩)) (fun m => !mvB (c.gStates_n : Int) ((2 ^ c.gInputs_n) - 1) m) _ (q9.sep S7) (by first | omega | (simp; omega)) hb39 (fun i_ w_ hi_ S_ => valid1_any (c.gStates_n : Int) ((2 ^ c.gInputs_n) - 1) b2 b3 _ w_ (box_keep (S7.nth 1 rfl) S_) (box_keep (S7.nth 0 rfl) S_))) ?_
 rintro _ w8 ⟨rfl, T3⟩
 have S8 : Sep w [box b3 [.int .i64 ((2 ^ c.gInputs_n) - 1)] 3, box b2 [.int .i64 (c.gStates_n : Int)] 3, box b1 [.slice c.gStates_a c.gStates_n c.gStates_c, .slice c.gInputs_a c.gInputs_n c.gInputs_c, .int .i64 c.gStart, .slice c.gMoves_a c.gMoves_n c.gMoves_c] 25] w8 := S7.trans T3
 clear T3 S7
 refine J.run 3 K19_29 [(2, .bool (!(List.any c.gMoves_l (fun m => !mvB (c.gStates_n : Int) ((2 ^ c.gInputs_n) - 1) m))))] w8 (by kernel_rfl) ?_
 refine J.ret Try.f19 [.bool (!(List.any c.gMoves_l (fun m => !mvB (c.gStates_n : Int) ((2 ^ c.gInputs_n) - 1) m)))] Try.func19 ⟨by kernel_rfl, trivial⟩ ?_
 refine hR _ _ ?_
 exact ⟨congrArg Value.bool (by rw [Bool.eq_iff_iff]; first | (simp [validC, maskF, any_not_all, fk1, fk2, fk3, fk4, fk5, fk6, fk7, fk8]; done) | (simp [validC, maskF, any_not_all, fk1, fk2, fk3, fk4, fk5, fk6, fk7, fk8]; omega) | (simp [validC, maskF, fk1, fk2, fk3, fk4, fk5, fk6, fk7, fk8]; intros; omega)), S8.nil⟩

end
end Go.Proofs.Ytbbpgidmadlgmaa

