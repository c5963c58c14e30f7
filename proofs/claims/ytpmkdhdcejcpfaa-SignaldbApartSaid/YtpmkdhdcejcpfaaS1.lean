/- Walks of functions of this seat, printed by a program over the engine. Conditions: as each theorem says. -/
import Derived.Test.YtpmkdhdcejcpfaaProg
import Derived.Test.YtpmkdhdcejcpfaaEng8
namespace Go.Proofs.Ytpmkdhdcejcpfaa
open Go.Eng Go.RowKit
set_option linter.unusedSimpArgs false
set_option linter.unusedVariables false
theorem Try.mixed : Try.prog.follows .mixedOrders = true := by kernel_rfl

def letterB (c : Int) : Bool := (decide (65 ≤ c) && decide (c ≤ 90)) || (decide (97 ≤ c) && decide (c ≤ 122))
def digitB (c : Int) : Bool := decide (48 ≤ c) && decide (c ≤ 57)
def partB (c : Int) : Bool := letterB c || digitB c || c == 95
def nameB (s : ByteArray) : Bool := decide (1 ≤ s.size) && decide (s.size ≤ 24) && letterB (byteAt s 0) && (List.range s.size).all fun j => partB (byteAt s j)
theorem all_range_false {n j : Nat} {p : Nat → Bool} (h : j < n) (hp : p j = false) : (List.range n).all p = false := by
  rw [List.all_eq_false]; exact ⟨j, by simpa using h, by simp [hp]⟩
theorem all_range_true {n : Nat} {p : Nat → Bool} (h : ∀ j, j < n → p j = true) : (List.range n).all p = true := by
  rw [List.all_eq_true]; intro j hj; exact h j (by simpa using hj)
theorem name_no {s : ByteArray} (h : s.size < 1 ∨ 24 < s.size ∨ letterB (byteAt s 0) = false) : nameB s = false := by
  unfold nameB
  rcases h with h | h | h
  · rw [decide_eq_false (show ¬ 1 ≤ s.size by omega)]; rfl
  · rw [decide_eq_false (show ¬ s.size ≤ 24 by omega)]; simp
  · rw [h]; simp
theorem name_bad {s : ByteArray} {i : Int} (h0 : 0 ≤ i) (h : i < (s.size : Int)) (hp : partB (byteAt s i.toNat) = false) : nameB s = false := by
  unfold nameB; rw [all_range_false (j := i.toNat) (by omega) hp]; simp
theorem name_yes {s : ByteArray} (h1 : 1 ≤ s.size) (h2 : s.size ≤ 24) (h3 : letterB (byteAt s 0) = true) (h4 : ∀ j, j < s.size → partB (byteAt s j) = true) : nameB s = true := by
  unfold nameB; rw [decide_eq_true h1, decide_eq_true h2, h3, all_range_true h4]; rfl
theorem pow32 {n : Nat} (h : n ≤ 32) : (1 : Int) ≤ 2 ^ n ∧ (2 : Int) ^ n ≤ 4294967296 := by
  have h1 : (1 : Int) ≤ 2 ^ n := by exact_mod_cast Nat.one_le_two_pow
  have h2 : (2 : Int) ^ n ≤ 2 ^ 32 := by exact_mod_cast Nat.pow_le_pow_right (by omega) h
  omega
theorem shl_i {x y : Int} (hx : x = 1 ∨ x = -1) (h0 : 0 ≤ y) (h : y ≤ 32) : IntKind.wrap .i64 (x * 2 ^ min y.toNat (IntKind.bits .i64)) = x * 2 ^ y.toNat := by
  have hp := pow32 (n := y.toNat) (by omega)
  rw [show min y.toNat (IntKind.bits .i64) = y.toNat from Nat.min_eq_left (show y.toNat ≤ 64 by omega)]
  rcases hx with rfl | rfl <;> exact IntWalk.i64_in _ (by omega)
theorem shl_one {y : Int} (h0 : 0 ≤ y) (h : y ≤ 32) : IntKind.wrap .i64 (1 * 2 ^ min y.toNat (IntKind.bits .i64)) = 2 ^ y.toNat := by rw [shl_i (.inl rfl) h0 h, Int.one_mul]
theorem shl_neg {y : Int} (h0 : 0 ≤ y) (h : y ≤ 32) : IntKind.wrap .i64 (-1 * 2 ^ min y.toNat (IntKind.bits .i64)) = -(2 ^ y.toNat) := by rw [shl_i (.inr rfl) h0 h, Int.neg_mul, Int.one_mul]
def lowF (ln : Int) (sg : Bool) : Int := if sg then -(2 ^ (ln - 1).toNat) else 0
def highF (ln : Int) (sg : Bool) : Int := if sg then 2 ^ (ln - 1).toNat - 1 else 2 ^ ln.toNat - 1
def inB (x a b : Int) : Bool := decide (a ≤ x) && decide (x ≤ b)
def sigB (nm : ByteArray) (st ln : Int) (mo sg : Bool) (num off den low high : Int) : Bool :=
  nameB nm && inB ln 1 32 && inB st 0 63 && inB num 1 1048576 && inB den 1 1048576 && inB off (-1073741824) 1073741824 && decide (lowF ln sg ≤ low) && decide (low ≤ high) && decide (high ≤ highF ln sg)
theorem inB_iff {x a b : Int} : inB x a b = true ↔ a ≤ x ∧ x ≤ b := by simp [inB]
theorem inB_not {x a b : Int} (h : inB x a b = false) : x < a ∨ b < x := by simp [inB] at h; omega
theorem name_step {s : ByteArray} {i : Int} (hq : ∀ j, j < i.toNat → partB (byteAt s j) = true) (h0 : 0 ≤ i) (hp : partB (byteAt s i.toNat) = true) : ∀ j, j < (i + 1).toNat → partB (byteAt s j) = true := by
  intro j hj
  by_cases e : j = i.toNat
  · subst e; exact hp
  · exact hq j (by omega)
theorem sigB_facts {nm : ByteArray} {st ln : Int} {mo sg : Bool} {num off den low high : Int} (h : sigB nm st ln mo sg num off den low high = true) : (1 ≤ ln ∧ ln ≤ 32) ∧ (0 ≤ st ∧ st ≤ 63) ∧ lowF ln sg ≤ low ∧ low ≤ high ∧ high ≤ highF ln sg := by
  simp [sigB, inB] at h; omega
def nextB (m : Bool) (b : Int) : Int := if m then (if b % 8 = 0 then b + 15 else b - 1) else b + 1
def iterB (m : Bool) (b : Int) : Nat → Int
  | 0 => b
  | n + 1 => nextB m (iterB m b n)
def seqF (m : Bool) (b : Int) (n : Nat) : List Int := (List.range n).map (iterB m b)
theorem seqF_snoc {m : Bool} {b0 b : Int} {i : Int} (h0 : 0 ≤ i) (hb : b = iterB m b0 i.toNat) : seqF m b0 (i + 1).toNat = seqF m b0 i.toNat ++ [b] := by
  rw [show (i + 1).toNat = i.toNat + 1 by omega, hb]; unfold seqF; rw [List.range_succ, List.map_append]; rfl
theorem iterB_next {m : Bool} {b0 b b' : Int} {i : Int} (h0 : 0 ≤ i) (hb : b = iterB m b0 i.toNat) (h : b' = nextB m b) : b' = iterB m b0 (i + 1).toNat := by
  rw [show (i + 1).toNat = i.toNat + 1 by omega, h, hb]; rfl
theorem iterB_up (b : Int) (n : Nat) : iterB false b n = b + n := by
  induction n with
  | zero => simp [iterB]
  | succ n ih => rw [iterB, ih]; simp [nextB]; omega
theorem seqF_length (m : Bool) (b : Int) (n : Nat) : (seqF m b n).length = n := by simp [seqF]
def bitsF (nm : ByteArray) (st ln : Int) (mo sg : Bool) (num off den low high : Int) : List Int :=
  if sigB nm st ln mo sg num off den low high then (if mo then (seqF true st ln.toNat).reverse else seqF false st ln.toNat) else []
/-- the first and the last i elements have changed places -/
def revPart (l : List Int) (i : Nat) : List Int := (List.range l.length).map fun k => if k < i ∨ l.length - 1 - k < i then l.getD (l.length - 1 - k) 0 else l.getD k 0
theorem revPart_length (l : List Int) (i : Nat) : (revPart l i).length = l.length := by simp [revPart]
theorem revPart_getD (l : List Int) (i k : Nat) (h : k < l.length) : (revPart l i).getD k 0 = if k < i ∨ l.length - 1 - k < i then l.getD (l.length - 1 - k) 0 else l.getD k 0 := by
  simp [revPart, List.getD, h]
theorem list_ext_getD {l m : List Int} (h : l.length = m.length) (h2 : ∀ k, k < l.length → l.getD k 0 = m.getD k 0) : l = m := by
  apply List.ext_getElem h
  intro k h3 h4
  have := h2 k h3
  simpa [List.getD, h3, h4] using this
theorem getD_set {l : List Int} (i k : Nat) (x : Int) (hi : i < l.length) : (l.set i x).getD k 0 = if k = i then x else l.getD k 0 := by
  simp only [List.getD, List.getElem?_set]
  by_cases e : i = k
  · subst e; simp [hi]
  · rw [if_neg e, if_neg (fun h => e h.symm)]
theorem revPart_start (l : List Int) : revPart l 0 = l := by
  refine list_ext_getD (revPart_length l 0) fun k hk => ?_
  rw [revPart_length] at hk
  rw [revPart_getD l 0 k hk, if_neg (by omega)]
theorem revPart_step {l : List Int} {i j : Nat} (hij : i < j) (hs : i + j + 1 = l.length) : ((revPart l i).set i ((revPart l i).getD j 0)).set j ((revPart l i).getD i 0) = revPart l (i + 1) := by
  refine list_ext_getD (by simp [revPart_length]) fun k hk => ?_
  simp only [List.length_set, revPart_length] at hk
  rw [getD_set _ _ _ (by simp [revPart_length]; omega), getD_set _ _ _ (by rw [revPart_length]; omega), revPart_getD l i k hk, revPart_getD l i i (by omega), revPart_getD l i j (by omega), revPart_getD l (i + 1) k hk]
  rw [if_neg (show ¬ (i < i ∨ l.length - 1 - i < i) by omega), if_neg (show ¬ (j < i ∨ l.length - 1 - j < i) by omega)]
  by_cases e : k = j
  · subst e; rw [if_pos rfl, if_pos (by omega), show l.length - 1 - k = i by omega]
  rw [if_neg e]
  by_cases e2 : k = i
  · subst e2; rw [if_pos rfl, if_pos (by omega), show l.length - 1 - k = j by omega]
  rw [if_neg e2]
  by_cases e3 : k < i ∨ l.length - 1 - k < i
  · rw [if_pos e3, if_pos (by omega)]
  · rw [if_neg e3, if_neg (by omega)]
theorem revPart_end {l : List Int} {i j : Int} (h : ¬ i < j) (hs : i + j + 1 = (l.length : Int)) (h0 : 0 ≤ i) : revPart l i.toNat = l.reverse := by
  refine list_ext_getD (by simp [revPart_length]) fun k hk => ?_
  rw [revPart_length] at hk
  rw [revPart_getD l _ k hk]
  have hr : l.reverse.getD k 0 = l.getD (l.length - 1 - k) 0 := by
    simp only [List.getD, List.getElem?_reverse hk]
  rw [hr]
  split
  · rfl
  · rw [show l.length - 1 - k = k by omega]
theorem revPart_next {l ls : List Int} {i j : Int} (h0 : 0 ≤ i) (h : i < j) (hs : i + j + 1 = (l.length : Int)) (hl : ls = revPart l i.toNat) : (ls.set i.toNat (ls.getD j.toNat 0)).set j.toNat (ls.getD i.toNat 0) = revPart l (i + 1).toNat := by
  rw [hl, show (i + 1).toNat = i.toNat + 1 by omega]; exact revPart_step (by omega) (by omega)
theorem beq_no {l m : List Int} {n k : Nat} (h : l.length = n) (h2 : m.length = k) (hne : (n : Int) ≠ k) : (l == m) = false := by
  rw [beq_eq_false_iff_ne]; intro e; rw [e] at h; omega
theorem beq_at {l m : List Int} {i : Nat} (h : l.getD i 0 ≠ m.getD i 0) : (l == m) = false := by
  rw [beq_eq_false_iff_ne]; intro e; rw [e] at h; exact h rfl
theorem beq_all {l m : List Int} (h : l.length = m.length) (h2 : ∀ j, j < l.length → l.getD j 0 = m.getD j 0) : (l == m) = true := by rw [beq_iff_eq]; exact list_ext_getD h h2

theorem hb37 : HasBody Try.prog 37 := fun _ _ => by kernel_rfl
noncomputable def K37_0 : List Item := adv 9 [] (bodyOf Try.f37)
noncomputable def K37_1 : List Item := adv 4 [] K37_0
noncomputable def K37_2 : List Item := adv 9 [] K37_1
noncomputable def K37_3 : List Item := adv 3 [] K37_1
noncomputable def K37_4 : List Item := adv 6 [] K37_3
noncomputable def K37_5 : List Item := adv 6 [] K37_3
noncomputable def K37_6 : List Item := adv 7 [] K37_0
noncomputable def K37_7 : List Item := adv 6 [] K37_6
noncomputable def K37_8 : List Item := adv 6 [] K37_6
set_option maxRecDepth 20000 in
set_option maxHeartbeats 20000000 in
theorem letter_any (c : Int) (w : World) : Ret Try.prog 37 #[.int .u8 c] w (fun v w' => v = .bool (letterB c) ∧ Sep w [] w') := by
  have S0 := Sep.refl w
  refine Ret.named fun R hR => ?_
  refine Ret.of_J (N := 17) [(0, .int .u8 c)] Try.func37 rfl rfl (Nat.le_of_ble_eq_true (by kernel_rfl)) (by kernel_rfl) ?_
  refine J.run 9 K37_0 [(5, .bool (decide (c ≥ 65))), (0, .int .u8 c)] w (by kernel_rfl) ?_
  by_cases fk1 : c ≥ 65
  · skip
    refine J.head (.bool true) (congrArg Value.bool (decide_eq_true fk1)) ?_
    refine J.run 4 K37_1 [(9, .bool (decide (c ≤ 90))), (0, .int .u8 c)] w (by kernel_rfl) ?_
    by_cases fk2 : c ≤ 90
    · skip
      refine J.head (.bool true) (congrArg Value.bool (decide_eq_true fk2)) ?_
      refine J.run 9 K37_2 [(2, .bool true)] w (by kernel_rfl) ?_
      refine J.ret Try.f37 [.bool true] Try.func37 ⟨by kernel_rfl, trivial⟩ ?_
      refine hR _ _ ?_
      exact ⟨congrArg Value.bool (by unfold letterB; first | omega | (simp; done) | (simp; omega) | (simp_all; done) | (simp_all; omega)), S0.nil⟩
    · skip
      refine J.head (.bool false) (congrArg Value.bool (decide_eq_false fk2)) ?_
      refine J.run 3 K37_3 [(12, .bool (decide (c ≥ 97))), (9, .bool false), (0, .int .u8 c)] w (by kernel_rfl) ?_
      by_cases fk3 : c ≥ 97
      · skip
        refine J.head (.bool true) (congrArg Value.bool (decide_eq_true fk3)) ?_
        refine J.run 6 K37_4 [(2, .bool (decide (c ≤ 122)))] w (by kernel_rfl) ?_
        refine J.ret Try.f37 [.bool (decide (c ≤ 122))] Try.func37 ⟨by kernel_rfl, trivial⟩ ?_
        refine hR _ _ ?_
        exact ⟨congrArg Value.bool (by unfold letterB; first | omega | (simp; done) | (simp; omega) | (simp_all; done) | (simp_all; omega)), S0.nil⟩
      · skip
        refine J.head (.bool false) (congrArg Value.bool (decide_eq_false fk3)) ?_
        refine J.run 6 K37_5 [(2, .bool false)] w (by kernel_rfl) ?_
        refine J.ret Try.f37 [.bool false] Try.func37 ⟨by kernel_rfl, trivial⟩ ?_
        refine hR _ _ ?_
        exact ⟨congrArg Value.bool (by unfold letterB; first | omega | (simp; done) | (simp; omega) | (simp_all; done) | (simp_all; omega)), S0.nil⟩
  · skip
    refine J.head (.bool false) (congrArg Value.bool (decide_eq_false fk1)) ?_
    refine J.run 7 K37_6 [(12, .bool (decide (c ≥ 97))), (9, .bool false), (0, .int .u8 c)] w (by kernel_rfl) ?_
    by_cases fk4 : c ≥ 97
    · skip
      refine J.head (.bool true) (congrArg Value.bool (decide_eq_true fk4)) ?_
      refine J.run 6 K37_7 [(2, .bool (decide (c ≤ 122)))] w (by kernel_rfl) ?_
      refine J.ret Try.f37 [.bool (decide (c ≤ 122))] Try.func37 ⟨by kernel_rfl, trivial⟩ ?_
      refine hR _ _ ?_
      exact ⟨congrArg Value.bool (by unfold letterB; first | omega | (simp; done) | (simp; omega) | (simp_all; done) | (simp_all; omega)), S0.nil⟩
    · skip
      refine J.head (.bool false) (congrArg Value.bool (decide_eq_false fk4)) ?_
      refine J.run 6 K37_8 [(2, .bool false)] w (by kernel_rfl) ?_
      refine J.ret Try.f37 [.bool false] Try.func37 ⟨by kernel_rfl, trivial⟩ ?_
      refine hR _ _ ?_
      exact ⟨congrArg Value.bool (by unfold letterB; first | omega | (simp; done) | (simp; omega) | (simp_all; done) | (simp_all; omega)), S0.nil⟩

theorem hb40 : HasBody Try.prog 40 := fun _ _ => by kernel_rfl
noncomputable def K40_0 : List Item := adv 9 [] (bodyOf Try.f40)
noncomputable def K40_1 : List Item := adv 4 [] K40_0
noncomputable def K40_2 : List Item := adv 9 [] K40_1
noncomputable def K40_3 : List Item := adv 3 [] K40_1
noncomputable def K40_4 : List Item := adv 6 [] K40_3
noncomputable def K40_5 : List Item := adv 6 [] K40_3
noncomputable def K40_6 : List Item := adv 7 [] K40_0
noncomputable def K40_7 : List Item := adv 6 [] K40_6
noncomputable def K40_8 : List Item := adv 6 [] K40_6
set_option maxRecDepth 20000 in
set_option maxHeartbeats 20000000 in
theorem rletter_any (c : Int) (w : World) : Ret Try.prog 40 #[.int .u8 c] w (fun v w' => v = .bool (letterB c) ∧ Sep w [] w') := by
  have S0 := Sep.refl w
  refine Ret.named fun R hR => ?_
  refine Ret.of_J (N := 17) [(0, .int .u8 c)] Try.func40 rfl rfl (Nat.le_of_ble_eq_true (by kernel_rfl)) (by kernel_rfl) ?_
  refine J.run 9 K40_0 [(5, .bool (decide (c ≥ 97))), (0, .int .u8 c)] w (by kernel_rfl) ?_
  by_cases fk1 : c ≥ 97
  · skip
    refine J.head (.bool true) (congrArg Value.bool (decide_eq_true fk1)) ?_
    refine J.run 4 K40_1 [(9, .bool (decide (c ≤ 122))), (0, .int .u8 c)] w (by kernel_rfl) ?_
    by_cases fk2 : c ≤ 122
    · skip
      refine J.head (.bool true) (congrArg Value.bool (decide_eq_true fk2)) ?_
      refine J.run 9 K40_2 [(2, .bool true)] w (by kernel_rfl) ?_
      refine J.ret Try.f40 [.bool true] Try.func40 ⟨by kernel_rfl, trivial⟩ ?_
      refine hR _ _ ?_
      exact ⟨congrArg Value.bool (by unfold letterB; first | omega | (simp; done) | (simp; omega) | (simp_all; done) | (simp_all; omega)), S0.nil⟩
    · skip
      refine J.head (.bool false) (congrArg Value.bool (decide_eq_false fk2)) ?_
      refine J.run 3 K40_3 [(12, .bool (decide (c ≥ 65))), (9, .bool false), (0, .int .u8 c)] w (by kernel_rfl) ?_
      by_cases fk3 : c ≥ 65
      · skip
        refine J.head (.bool true) (congrArg Value.bool (decide_eq_true fk3)) ?_
        refine J.run 6 K40_4 [(2, .bool (decide (c ≤ 90)))] w (by kernel_rfl) ?_
        refine J.ret Try.f40 [.bool (decide (c ≤ 90))] Try.func40 ⟨by kernel_rfl, trivial⟩ ?_
        refine hR _ _ ?_
        exact ⟨congrArg Value.bool (by unfold letterB; first | omega | (simp; done) | (simp; omega) | (simp_all; done) | (simp_all; omega)), S0.nil⟩
      · skip
        refine J.head (.bool false) (congrArg Value.bool (decide_eq_false fk3)) ?_
        refine J.run 6 K40_5 [(2, .bool false)] w (by kernel_rfl) ?_
        refine J.ret Try.f40 [.bool false] Try.func40 ⟨by kernel_rfl, trivial⟩ ?_
        refine hR _ _ ?_
        exact ⟨congrArg Value.bool (by unfold letterB; first | omega | (simp; done) | (simp; omega) | (simp_all; done) | (simp_all; omega)), S0.nil⟩
  · skip
    refine J.head (.bool false) (congrArg Value.bool (decide_eq_false fk1)) ?_
    refine J.run 7 K40_6 [(12, .bool (decide (c ≥ 65))), (9, .bool false), (0, .int .u8 c)] w (by kernel_rfl) ?_
    by_cases fk4 : c ≥ 65
    · skip
      refine J.head (.bool true) (congrArg Value.bool (decide_eq_true fk4)) ?_
      refine J.run 6 K40_7 [(2, .bool (decide (c ≤ 90)))] w (by kernel_rfl) ?_
      refine J.ret Try.f40 [.bool (decide (c ≤ 90))] Try.func40 ⟨by kernel_rfl, trivial⟩ ?_
      refine hR _ _ ?_
      exact ⟨congrArg Value.bool (by unfold letterB; first | omega | (simp; done) | (simp; omega) | (simp_all; done) | (simp_all; omega)), S0.nil⟩
    · skip
      refine J.head (.bool false) (congrArg Value.bool (decide_eq_false fk4)) ?_
      refine J.run 6 K40_8 [(2, .bool false)] w (by kernel_rfl) ?_
      refine J.ret Try.f40 [.bool false] Try.func40 ⟨by kernel_rfl, trivial⟩ ?_
      refine hR _ _ ?_
      exact ⟨congrArg Value.bool (by unfold letterB; first | omega | (simp; done) | (simp; omega) | (simp_all; done) | (simp_all; omega)), S0.nil⟩

theorem hb41 : HasBody Try.prog 41 := fun _ _ => by kernel_rfl
noncomputable def K41_0 : List Item := adv 9 [] (bodyOf Try.f41)
noncomputable def K41_1 : List Item := adv 5 [] K41_0
noncomputable def K41_2 : List Item := adv 5 [] K41_0
set_option maxRecDepth 20000 in
set_option maxHeartbeats 20000000 in
theorem rdigit_any (c : Int) (w : World) : Ret Try.prog 41 #[.int .u8 c] w (fun v w' => v = .bool (digitB c) ∧ Sep w [] w') := by
  have S0 := Sep.refl w
  refine Ret.named fun R hR => ?_
  refine Ret.of_J (N := 9) [(0, .int .u8 c)] Try.func41 rfl rfl (Nat.le_of_ble_eq_true (by kernel_rfl)) (by kernel_rfl) ?_
  refine J.run 9 K41_0 [(5, .bool (decide (c ≥ 48))), (0, .int .u8 c)] w (by kernel_rfl) ?_
  by_cases fk1 : c ≥ 48
  · skip
    refine J.head (.bool true) (congrArg Value.bool (decide_eq_true fk1)) ?_
    refine J.run 5 K41_1 [(2, .bool (decide (c ≤ 57)))] w (by kernel_rfl) ?_
    refine J.ret Try.f41 [.bool (decide (c ≤ 57))] Try.func41 ⟨by kernel_rfl, trivial⟩ ?_
    refine hR _ _ ?_
    exact ⟨congrArg Value.bool (by unfold digitB; first | omega | (simp; done) | (simp; omega) | (simp_all; done) | (simp_all; omega)), S0.nil⟩
  · skip
    refine J.head (.bool false) (congrArg Value.bool (decide_eq_false fk1)) ?_
    refine J.run 5 K41_2 [(2, .bool false)] w (by kernel_rfl) ?_
    refine J.ret Try.f41 [.bool false] Try.func41 ⟨by kernel_rfl, trivial⟩ ?_
    refine hR _ _ ?_
    exact ⟨congrArg Value.bool (by unfold digitB; first | omega | (simp; done) | (simp; omega) | (simp_all; done) | (simp_all; omega)), S0.nil⟩

theorem hb29 : HasBody Try.prog 29 := fun _ _ => by kernel_rfl
noncomputable def K29_0 : List Item := adv 10 [] (bodyOf Try.f29)
noncomputable def K29_1 : List Item := adv 6 [] K29_0
noncomputable def K29_2 : List Item := adv 6 [] K29_0
set_option maxRecDepth 20000 in
set_option maxHeartbeats 20000000 in
theorem in_any (x a b : Int) (w : World) : Ret Try.prog 29 #[.int .i64 x, .int .i64 a, .int .i64 b] w (fun v w' => v = .bool (inB x a b) ∧ Sep w [] w') := by
  have S0 := Sep.refl w
  refine Ret.named fun R hR => ?_
  refine Ret.of_J (N := 15) [(0, .int .i64 x), (1, .int .i64 a), (2, .int .i64 b)] Try.func29 rfl rfl (Nat.le_of_ble_eq_true (by kernel_rfl)) (by kernel_rfl) ?_
  refine J.run 10 K29_0 [(10, .bool (decide (x ≥ a))), (0, .int .i64 x), (2, .int .i64 b)] w (by kernel_rfl) ?_
  by_cases fk1 : x ≥ a
  · skip
    refine J.head (.bool true) (congrArg Value.bool (decide_eq_true fk1)) ?_
    refine J.run 6 K29_1 [(6, .bool (decide (x ≤ b)))] w (by kernel_rfl) ?_
    refine J.ret Try.f29 [.bool (decide (x ≤ b))] Try.func29 ⟨by kernel_rfl, trivial⟩ ?_
    refine hR _ _ ?_
    exact ⟨congrArg Value.bool (by unfold inB; first | omega | (simp; done) | (simp; omega) | (simp_all; done) | (simp_all; omega)), S0.nil⟩
  · skip
    refine J.head (.bool false) (congrArg Value.bool (decide_eq_false fk1)) ?_
    refine J.run 6 K29_2 [(6, .bool false)] w (by kernel_rfl) ?_
    refine J.ret Try.f29 [.bool false] Try.func29 ⟨by kernel_rfl, trivial⟩ ?_
    refine hR _ _ ?_
    exact ⟨congrArg Value.bool (by unfold inB; first | omega | (simp; done) | (simp; omega) | (simp_all; done) | (simp_all; omega)), S0.nil⟩

theorem hb28 : HasBody Try.prog 28 := fun _ _ => by kernel_rfl
noncomputable def K28_0 : List Item := adv 9 [] (bodyOf Try.f28)
noncomputable def K28_1 : List Item := adv 2 [] (popK K28_0)
noncomputable def K28_2 : List Item := adv 1 [] K28_1
noncomputable def K28_3 : List Item := adv 3 [] (popK (popK K28_2))
noncomputable def K28_4 : List Item := adv 11 [false] K28_3
noncomputable def K28_5 : List Item := adv 5 [] K28_4
noncomputable def K28_6 : List Item := adv 13 [true] K28_5
noncomputable def K28_7 : List Item := adv 5 [] (popK K28_6)
noncomputable def K28_8 : List Item := adv 2 [] (popK K28_7)
noncomputable def K28_9 : List Item := adv 17 [false] K28_8
noncomputable def K28_10 : List Item := adv 3 [] K28_8
noncomputable def K28_11 : List Item := adv 9 [] K28_10
noncomputable def K28_12 : List Item := adv 5 [false] K28_11
noncomputable def K28_13 : List Item := adv 5 [true] K28_11
noncomputable def K28_14 : List Item := adv 5 [] K28_10
noncomputable def K28_15 : List Item := adv 4 [] K28_14
noncomputable def K28_16 : List Item := adv 5 [false] K28_15
noncomputable def K28_17 : List Item := adv 5 [true] K28_15
noncomputable def K28_18 : List Item := adv 9 [false] K28_14
noncomputable def K28_19 : List Item := adv 6 [false] K28_5
noncomputable def K28_20 : List Item := adv 5 [true] K28_3
noncomputable def K28_21 : List Item := adv 11 [true] K28_1
set_option maxRecDepth 20000 in
set_option maxHeartbeats 20000000 in
theorem name_any (s : ByteArray) (w : World) (hs : s.size ≤ 9223372036854775807) : Ret Try.prog 28 #[.string s] w (fun v w' => v = .bool (nameB s) ∧ Sep w [] w') := by
  have S0 := Sep.refl w
  refine Ret.named fun R hR => ?_
  refine Ret.of_J (N := 39) [(0, .string s)] Try.func28 rfl rfl (Nat.le_of_ble_eq_true (by kernel_rfl)) (by kernel_rfl) ?_
  refine J.run 9 K28_0 [(6, .int .i64 (s.size : Int)), (0, .string s)] w (by kernel_rfl) ?_
  refine J.callF 7 29 #[.int .i64 (s.size : Int), .int .i64 1, .int .i64 24] hb29 (by kernel_rfl) (in_any (s.size : Int) 1 24 _) ?_
  rintro _ w1 ⟨rfl, T1⟩
  have S1 : Sep w [] w1 := S0.trans T1
  clear T1
  refine J.run 2 K28_1 [(9, .bool (!(inB (s.size : Int) 1 24))), (0, .string s)] w1 (by kernel_rfl) ?_
  rcases Bool.eq_false_or_eq_true (inB (s.size : Int) 1 24) with fk1 | fk1
  · skip
    refine J.head (.bool false) (congrArg Value.bool (by rw [fk1]; rfl)) ?_
    have fb1 := inB_iff.1 fk1
    refine J.run 1 K28_2 [(10, .string s), (9, .bool false), (0, .string s)] w1 (by kernel_rfl) ?_
    have := byteAt_bounds s 0
    refine J.ok (OK.byte 11 9 s (0 : Int) (byteAt s 0) (by kernel_rfl) (by kernel_rfl) (by omega) (by omega) (rfl)) ?_
    refine J.callF 12 37 #[.int .u8 (byteAt s 0)] hb37 (by kernel_rfl) (letter_any (byteAt s 0) _) ?_
    rintro _ w2 ⟨rfl, T2⟩
    have S2 : Sep w [] w2 := S1.trans T2
    clear T2 S1
    refine J.run 3 K28_3 [(14, .bool (!(letterB (byteAt s 0)))), (0, .string s)] w2 (by kernel_rfl) ?_
    rcases Bool.eq_false_or_eq_true (letterB (byteAt s 0)) with fk2 | fk2
    · skip
      refine J.head (.bool false) (congrArg Value.bool (by rw [fk2]; rfl)) ?_
      refine J.run 11 K28_4 [(17, .int .i64 0), (16, .int .i64 (s.size : Int)), (0, .string s)] w2 (by kernel_rfl) ?_
      have L28_1 : ∀ (mm_ : Nat) (i : Int) (w3 : World), (0 ≤ i) → (i ≤ (s.size : Int)) → (∀ j, j < (i).toNat → partB (byteAt s j) = true) → Sep w [] w3 → ((s.size : Int) - i).toNat = mm_ → J Try.prog 28 39 R K28_4 [(17, .int .i64 i), (16, .int .i64 (s.size : Int)), (0, .string s)] w3 := by
        intro mm1
        induction mm1 using Nat.strongRecOn with
        | _ mm1 ih1 =>
        intro i w3 h0 h1 hq S3 hm1
        have hlet : letterB (byteAt s 0) = true := fk2
        refine J.run 5 K28_5 [(18, .bool (decide (i < (s.size : Int)))), (17, .int .i64 i), (16, .int .i64 (s.size : Int)), (0, .string s)] w3 (by kernel_rfl) ?_
        by_cases fk3 : i < (s.size : Int)
        · skip
          refine J.head (.bool true) (congrArg Value.bool (decide_eq_true fk3)) ?_
          refine J.run 13 K28_6 [(21, .int .i64 i), (20, .string s), (17, .int .i64 i), (16, .int .i64 (s.size : Int)), (0, .string s)] w3 (by kernel_rfl) ?_
          have := byteAt_bounds s (i).toNat
          refine J.ok (OK.byte 22 9 s i (byteAt s (i).toNat) (by kernel_rfl) (by kernel_rfl) (by omega) (by omega) (rfl)) ?_
          refine J.run 5 K28_7 [(23, .int .u8 (byteAt s (i).toNat)), (4, .int .u8 (byteAt s (i).toNat)), (17, .int .i64 i), (16, .int .i64 (s.size : Int)), (0, .string s)] w3 (by kernel_rfl) ?_
          refine J.callF 24 37 #[.int .u8 (byteAt s (i).toNat)] hb37 (by kernel_rfl) (letter_any (byteAt s (i).toNat) _) ?_
          rintro _ w4 ⟨rfl, T3⟩
          have S4 : Sep w [] w4 := S3.trans T3
          clear T3 S3
          refine J.run 2 K28_8 [(26, .bool (!(letterB (byteAt s (i).toNat)))), (4, .int .u8 (byteAt s (i).toNat)), (17, .int .i64 i), (16, .int .i64 (s.size : Int)), (0, .string s)] w4 (by kernel_rfl) ?_
          rcases Bool.eq_false_or_eq_true (letterB (byteAt s (i).toNat)) with fk4 | fk4
          · skip
            refine J.head (.bool false) (congrArg Value.bool (by rw [fk4]; rfl)) ?_
            refine J.run 17 K28_9 [(38, .int .i64 (IntKind.wrap .i64 (i + 1))), (16, .int .i64 (s.size : Int)), (0, .string s)] w4 (by kernel_rfl) ?_
            refine J.head (.int .i64 (i + 1)) (congrArg (Value.int .i64) (IntWalk.i64_in _ (by omega))) ?_
            refine J.run 3 K28_4 [(17, .int .i64 (i + 1)), (16, .int .i64 (s.size : Int)), (0, .string s)] w4 (by kernel_rfl) ?_
            refine J.run 0 K28_4 [(17, .int .i64 (i + 1)), (16, .int .i64 (s.size : Int)), (0, .string s)] w4 (by kernel_rfl) ?_
            exact ih1 _ (show ((s.size : Int) - (i + 1)).toNat < mm1 from by omega) (i + 1) w4 (by omega) (by omega) (name_step hq h0 (by first | (simp [partB, fk1, fk2, fk3, fk4]; done) | (simp [partB, fk1, fk2, fk3, fk4]; omega) | (simp [partB, digitB, fk1, fk2, fk3, fk4]; done) | (simp [partB, digitB, fk1, fk2, fk3, fk4]; omega))) S4 rfl
          · skip
            refine J.head (.bool true) (congrArg Value.bool (by rw [fk4]; rfl)) ?_
            refine J.run 3 K28_10 [(29, .bool (decide ((byteAt s (i).toNat) < 48))), (26, .bool true), (4, .int .u8 (byteAt s (i).toNat)), (17, .int .i64 i), (16, .int .i64 (s.size : Int)), (0, .string s)] w4 (by kernel_rfl) ?_
            by_cases fk5 : (byteAt s (i).toNat) < 48
            · skip
              refine J.head (.bool true) (congrArg Value.bool (decide_eq_true fk5)) ?_
              refine J.run 9 K28_11 [(37, .bool ((byteAt s (i).toNat) != 95)), (17, .int .i64 i), (16, .int .i64 (s.size : Int)), (0, .string s)] w4 (by kernel_rfl) ?_
              by_cases fk6 : (byteAt s (i).toNat) = 95
              · skip
                refine J.head (.bool false) (congrArg Value.bool (bne_eq_false_iff_eq.2 fk6)) ?_
                refine J.run 5 K28_12 [(38, .int .i64 (IntKind.wrap .i64 (i + 1))), (16, .int .i64 (s.size : Int)), (0, .string s)] w4 (by kernel_rfl) ?_
                refine J.head (.int .i64 (i + 1)) (congrArg (Value.int .i64) (IntWalk.i64_in _ (by omega))) ?_
                refine J.run 3 K28_4 [(17, .int .i64 (i + 1)), (16, .int .i64 (s.size : Int)), (0, .string s)] w4 (by kernel_rfl) ?_
                refine J.run 0 K28_4 [(17, .int .i64 (i + 1)), (16, .int .i64 (s.size : Int)), (0, .string s)] w4 (by kernel_rfl) ?_
                exact ih1 _ (show ((s.size : Int) - (i + 1)).toNat < mm1 from by omega) (i + 1) w4 (by omega) (by omega) (name_step hq h0 (by first | (simp [partB, fk1, fk2, fk3, fk4, fk5, fk6]; done) | (simp [partB, fk1, fk2, fk3, fk4, fk5, fk6]; omega) | (simp [partB, digitB, fk1, fk2, fk3, fk4, fk5, fk6]; done) | (simp [partB, digitB, fk1, fk2, fk3, fk4, fk5, fk6]; omega))) S4 rfl
              · skip
                refine J.head (.bool true) (congrArg Value.bool (bne_iff_ne.2 fk6)) ?_
                refine J.run 5 K28_13 [(2, .bool false)] w4 (by kernel_rfl) ?_
                refine J.ret Try.f28 [.bool false] Try.func28 ⟨by kernel_rfl, trivial⟩ ?_
                refine hR _ _ ?_
                exact ⟨congrArg Value.bool (name_bad h0 (by omega) (by first | (simp [partB, fk1, fk2, fk3, fk4, fk5, fk6]; done) | (simp [partB, fk1, fk2, fk3, fk4, fk5, fk6]; omega) | (simp [partB, digitB, fk1, fk2, fk3, fk4, fk5, fk6]; done) | (simp [partB, digitB, fk1, fk2, fk3, fk4, fk5, fk6]; omega))).symm, S4.nil⟩
            · skip
              refine J.head (.bool false) (congrArg Value.bool (decide_eq_false fk5)) ?_
              refine J.run 5 K28_14 [(34, .bool (decide ((byteAt s (i).toNat) > 57))), (4, .int .u8 (byteAt s (i).toNat)), (17, .int .i64 i), (16, .int .i64 (s.size : Int)), (0, .string s)] w4 (by kernel_rfl) ?_
              by_cases fk7 : (byteAt s (i).toNat) > 57
              · skip
                refine J.head (.bool true) (congrArg Value.bool (decide_eq_true fk7)) ?_
                refine J.run 4 K28_15 [(37, .bool ((byteAt s (i).toNat) != 95)), (17, .int .i64 i), (16, .int .i64 (s.size : Int)), (0, .string s)] w4 (by kernel_rfl) ?_
                by_cases fk8 : (byteAt s (i).toNat) = 95
                · skip
                  refine J.head (.bool false) (congrArg Value.bool (bne_eq_false_iff_eq.2 fk8)) ?_
                  refine J.run 5 K28_16 [(38, .int .i64 (IntKind.wrap .i64 (i + 1))), (16, .int .i64 (s.size : Int)), (0, .string s)] w4 (by kernel_rfl) ?_
                  refine J.head (.int .i64 (i + 1)) (congrArg (Value.int .i64) (IntWalk.i64_in _ (by omega))) ?_
                  refine J.run 3 K28_4 [(17, .int .i64 (i + 1)), (16, .int .i64 (s.size : Int)), (0, .string s)] w4 (by kernel_rfl) ?_
                  refine J.run 0 K28_4 [(17, .int .i64 (i + 1)), (16, .int .i64 (s.size : Int)), (0, .string s)] w4 (by kernel_rfl) ?_
                  exact ih1 _ (show ((s.size : Int) - (i + 1)).toNat < mm1 from by omega) (i + 1) w4 (by omega) (by omega) (name_step hq h0 (by first | (simp [partB, fk1, fk2, fk3, fk4, fk5, fk7, fk8]; done) | (simp [partB, fk1, fk2, fk3, fk4, fk5, fk7, fk8]; omega) | (simp [partB, digitB, fk1, fk2, fk3, fk4, fk5, fk7, fk8]; done) | (simp [partB, digitB, fk1, fk2, fk3, fk4, fk5, fk7, fk8]; omega))) S4 rfl
                · skip
                  refine J.head (.bool true) (congrArg Value.bool (bne_iff_ne.2 fk8)) ?_
                  refine J.run 5 K28_17 [(2, .bool false)] w4 (by kernel_rfl) ?_
                  refine J.ret Try.f28 [.bool false] Try.func28 ⟨by kernel_rfl, trivial⟩ ?_
                  refine hR _ _ ?_
                  exact ⟨congrArg Value.bool (name_bad h0 (by omega) (by first | (simp [partB, fk1, fk2, fk3, fk4, fk5, fk7, fk8]; done) | (simp [partB, fk1, fk2, fk3, fk4, fk5, fk7, fk8]; omega) | (simp [partB, digitB, fk1, fk2, fk3, fk4, fk5, fk7, fk8]; done) | (simp [partB, digitB, fk1, fk2, fk3, fk4, fk5, fk7, fk8]; omega))).symm, S4.nil⟩
              · skip
                refine J.head (.bool false) (congrArg Value.bool (decide_eq_false fk7)) ?_
                refine J.run 9 K28_18 [(38, .int .i64 (IntKind.wrap .i64 (i + 1))), (16, .int .i64 (s.size : Int)), (0, .string s)] w4 (by kernel_rfl) ?_
                refine J.head (.int .i64 (i + 1)) (congrArg (Value.int .i64) (IntWalk.i64_in _ (by omega))) ?_
                refine J.run 3 K28_4 [(17, .int .i64 (i + 1)), (16, .int .i64 (s.size : Int)), (0, .string s)] w4 (by kernel_rfl) ?_
                refine J.run 0 K28_4 [(17, .int .i64 (i + 1)), (16, .int .i64 (s.size : Int)), (0, .string s)] w4 (by kernel_rfl) ?_
                exact ih1 _ (show ((s.size : Int) - (i + 1)).toNat < mm1 from by omega) (i + 1) w4 (by omega) (by omega) (name_step hq h0 (by first | (simp [partB, fk1, fk2, fk3, fk4, fk5, fk7]; done) | (simp [partB, fk1, fk2, fk3, fk4, fk5, fk7]; omega) | (simp [partB, digitB, fk1, fk2, fk3, fk4, fk5, fk7]; done) | (simp [partB, digitB, fk1, fk2, fk3, fk4, fk5, fk7]; omega))) S4 rfl
        · skip
          refine J.head (.bool false) (congrArg Value.bool (decide_eq_false fk3)) ?_
          refine J.run 6 K28_19 [(2, .bool true)] w3 (by kernel_rfl) ?_
          refine J.ret Try.f28 [.bool true] Try.func28 ⟨by kernel_rfl, trivial⟩ ?_
          refine hR _ _ ?_
          exact ⟨congrArg Value.bool (name_yes (by omega) (by omega) hlet (fun j hj => hq j (by omega))).symm, S3.nil⟩
      exact L28_1 _ 0 w2 (by omega) (by omega) (by intro j hj; simp at hj) S2 rfl
    · skip
      refine J.head (.bool true) (congrArg Value.bool (by rw [fk2]; rfl)) ?_
      refine J.run 5 K28_20 [(2, .bool false)] w2 (by kernel_rfl) ?_
      refine J.ret Try.f28 [.bool false] Try.func28 ⟨by kernel_rfl, trivial⟩ ?_
      refine hR _ _ ?_
      exact ⟨congrArg Value.bool (name_no (by first | omega | (right; right; assumption))).symm, S2.nil⟩
  · skip
    refine J.head (.bool true) (congrArg Value.bool (by rw [fk1]; rfl)) ?_
    have fb2 := inB_not fk1
    refine J.run 11 K28_21 [(2, .bool false)] w1 (by kernel_rfl) ?_
    refine J.ret Try.f28 [.bool false] Try.func28 ⟨by kernel_rfl, trivial⟩ ?_
    refine hR _ _ ?_
    exact ⟨congrArg Value.bool (name_no (by first | omega | (right; right; assumption))).symm, S1.nil⟩

theorem hb34 : HasBody Try.prog 34 := fun _ _ => by kernel_rfl
noncomputable def K34_0 : List Item := adv 11 [] (bodyOf Try.f34)
noncomputable def K34_1 : List Item := adv 16 [true] K34_0
noncomputable def K34_2 : List Item := adv 5 [] K34_0
noncomputable def K34_3 : List Item := adv 11 [true] K34_2
noncomputable def K34_4 : List Item := adv 1 [] K34_2
noncomputable def K34_5 : List Item := adv 3 [] (popK (popK K34_4))
noncomputable def K34_6 : List Item := adv 9 [false] K34_5
noncomputable def K34_7 : List Item := adv 8 [] K34_6
noncomputable def K34_8 : List Item := adv 8 [true] K34_7
noncomputable def K34_9 : List Item := adv 2 [] (popK (popK K34_8))
noncomputable def K34_10 : List Item := adv 19 [false] K34_9
noncomputable def K34_11 : List Item := adv 2 [] K34_9
noncomputable def K34_12 : List Item := adv 3 [] (popK (popK K34_11))
noncomputable def K34_13 : List Item := adv 12 [false] K34_12
noncomputable def K34_14 : List Item := adv 2 [] K34_12
noncomputable def K34_15 : List Item := adv 3 [] (popK K34_14)
noncomputable def K34_16 : List Item := adv 6 [false] K34_15
noncomputable def K34_17 : List Item := adv 5 [true] K34_15
noncomputable def K34_18 : List Item := adv 6 [false] K34_7
noncomputable def K34_19 : List Item := adv 5 [true] K34_5
set_option maxRecDepth 20000 in
set_option maxHeartbeats 20000000 in
theorem rname_any (s : ByteArray) (w : World) (hs : s.size ≤ 9223372036854775807) : Ret Try.prog 34 #[.string s] w (fun v w' => v = .bool (nameB s) ∧ Sep w [] w') := by
  have S0 := Sep.refl w
  refine Ret.named fun R hR => ?_
  refine Ret.of_J (N := 42) [(0, .string s)] Try.func34 rfl rfl (Nat.le_of_ble_eq_true (by kernel_rfl)) (by kernel_rfl) ?_
  refine J.run 11 K34_0 [(7, .bool (decide ((s.size : Int) < 1))), (0, .string s)] w (by kernel_rfl) ?_
  by_cases fk1 : (s.size : Int) < 1
  · skip
    refine J.head (.bool true) (congrArg Value.bool (decide_eq_true fk1)) ?_
    refine J.run 16 K34_1 [(2, .bool false)] w (by kernel_rfl) ?_
    refine J.ret Try.f34 [.bool false] Try.func34 ⟨by kernel_rfl, trivial⟩ ?_
    refine hR _ _ ?_
    exact ⟨congrArg Value.bool (name_no (by first | omega | (right; right; assumption))).symm, S0.nil⟩
  · skip
    refine J.head (.bool false) (congrArg Value.bool (decide_eq_false fk1)) ?_
    refine J.run 5 K34_2 [(12, .bool (decide ((s.size : Int) > 24))), (0, .string s)] w (by kernel_rfl) ?_
    by_cases fk2 : (s.size : Int) > 24
    · skip
      refine J.head (.bool true) (congrArg Value.bool (decide_eq_true fk2)) ?_
      refine J.run 11 K34_3 [(2, .bool false)] w (by kernel_rfl) ?_
      refine J.ret Try.f34 [.bool false] Try.func34 ⟨by kernel_rfl, trivial⟩ ?_
      refine hR _ _ ?_
      exact ⟨congrArg Value.bool (name_no (by first | omega | (right; right; assumption))).symm, S0.nil⟩
    · skip
      refine J.head (.bool false) (congrArg Value.bool (decide_eq_false fk2)) ?_
      refine J.run 1 K34_4 [(13, .string s), (12, .bool false), (0, .string s)] w (by kernel_rfl) ?_
      have := byteAt_bounds s 0
      refine J.ok (OK.byte 14 9 s (0 : Int) (byteAt s 0) (by kernel_rfl) (by kernel_rfl) (by omega) (by omega) (rfl)) ?_
      refine J.callF 15 40 #[.int .u8 (byteAt s 0)] hb40 (by kernel_rfl) (rletter_any (byteAt s 0) _) ?_
      rintro _ w1 ⟨rfl, T1⟩
      have S1 : Sep w [] w1 := S0.trans T1
      clear T1
      refine J.run 3 K34_5 [(17, .bool (!(letterB (byteAt s 0)))), (0, .string s)] w1 (by kernel_rfl) ?_
      rcases Bool.eq_false_or_eq_true (letterB (byteAt s 0)) with fk3 | fk3
      · skip
        refine J.head (.bool false) (congrArg Value.bool (by rw [fk3]; rfl)) ?_
        refine J.run 9 K34_6 [(3, .int .i64 0), (0, .string s)] w1 (by kernel_rfl) ?_
        have L34_1 : ∀ (mm_ : Nat) (i : Int) (w2 : World), (0 ≤ i) → (i ≤ (s.size : Int)) → (∀ j, j < (i).toNat → partB (byteAt s j) = true) → Sep w [] w2 → ((s.size : Int) - i).toNat = mm_ → J Try.prog 34 42 R K34_6 [(3, .int .i64 i), (0, .string s)] w2 := by
          intro mm1
          induction mm1 using Nat.strongRecOn with
          | _ mm1 ih1 =>
          intro i w2 h0 h1 hq S2 hm1
          have hlet : letterB (byteAt s 0) = true := fk3
          refine J.run 8 K34_7 [(21, .bool (decide (i < (s.size : Int)))), (3, .int .i64 i), (0, .string s)] w2 (by kernel_rfl) ?_
          by_cases fk4 : i < (s.size : Int)
          · skip
            refine J.head (.bool true) (congrArg Value.bool (decide_eq_true fk4)) ?_
            refine J.run 8 K34_8 [(25, .int .i64 i), (24, .string s), (3, .int .i64 i), (0, .string s)] w2 (by kernel_rfl) ?_
            have := byteAt_bounds s (i).toNat
            refine J.ok (OK.byte 26 9 s i (byteAt s (i).toNat) (by kernel_rfl) (by kernel_rfl) (by omega) (by omega) (rfl)) ?_
            refine J.callF 27 40 #[.int .u8 (byteAt s (i).toNat)] hb40 (by kernel_rfl) (rletter_any (byteAt s (i).toNat) _) ?_
            rintro _ w3 ⟨rfl, T2⟩
            have S3 : Sep w [] w3 := S2.trans T2
            clear T2 S2
            refine J.run 2 K34_9 [(29, .bool (!(letterB (byteAt s (i).toNat)))), (3, .int .i64 i), (0, .string s)] w3 (by kernel_rfl) ?_
            rcases Bool.eq_false_or_eq_true (letterB (byteAt s (i).toNat)) with fk5 | fk5
            · skip
              refine J.head (.bool false) (congrArg Value.bool (by rw [fk5]; rfl)) ?_
              refine J.run 19 K34_10 [(23, .int .i64 (IntKind.wrap .i64 (i + 1))), (0, .string s)] w3 (by kernel_rfl) ?_
              refine J.head (.int .i64 (i + 1)) (congrArg (Value.int .i64) (IntWalk.i64_in _ (by omega))) ?_
              refine J.run 3 K34_6 [(3, .int .i64 (i + 1)), (0, .string s)] w3 (by kernel_rfl) ?_
              refine J.run 0 K34_6 [(3, .int .i64 (i + 1)), (0, .string s)] w3 (by kernel_rfl) ?_
              exact ih1 _ (show ((s.size : Int) - (i + 1)).toNat < mm1 from by omega) (i + 1) w3 (by omega) (by omega) (name_step hq h0 (by first | (simp [partB, fk1, fk2, fk3, fk4, fk5]; done) | (simp [partB, fk1, fk2, fk3, fk4, fk5]; omega) | (simp [partB, digitB, fk1, fk2, fk3, fk4, fk5]; done) | (simp [partB, digitB, fk1, fk2, fk3, fk4, fk5]; omega))) S3 rfl
            · skip
              refine J.head (.bool true) (congrArg Value.bool (by rw [fk5]; rfl)) ?_
              refine J.run 2 K34_11 [(31, .int .i64 i), (30, .string s), (29, .bool true), (3, .int .i64 i), (0, .string s)] w3 (by kernel_rfl) ?_
              have := byteAt_bounds s (i).toNat
              refine J.ok (OK.byte 32 9 s i (byteAt s (i).toNat) (by kernel_rfl) (by kernel_rfl) (by omega) (by omega) (rfl)) ?_
              refine J.callF 33 41 #[.int .u8 (byteAt s (i).toNat)] hb41 (by kernel_rfl) (rdigit_any (byteAt s (i).toNat) _) ?_
              rintro _ w4 ⟨rfl, T3⟩
              have S4 : Sep w [] w4 := S3.trans T3
              clear T3 S3
              refine J.run 3 K34_12 [(36, .bool (!(digitB (byteAt s (i).toNat)))), (3, .int .i64 i), (0, .string s)] w4 (by kernel_rfl) ?_
              rcases Bool.eq_false_or_eq_true (digitB (byteAt s (i).toNat)) with fk6 | fk6
              · skip
                refine J.head (.bool false) (congrArg Value.bool (by rw [fk6]; rfl)) ?_
                refine J.run 12 K34_13 [(23, .int .i64 (IntKind.wrap .i64 (i + 1))), (0, .string s)] w4 (by kernel_rfl) ?_
                refine J.head (.int .i64 (i + 1)) (congrArg (Value.int .i64) (IntWalk.i64_in _ (by omega))) ?_
                refine J.run 3 K34_6 [(3, .int .i64 (i + 1)), (0, .string s)] w4 (by kernel_rfl) ?_
                refine J.run 0 K34_6 [(3, .int .i64 (i + 1)), (0, .string s)] w4 (by kernel_rfl) ?_
                exact ih1 _ (show ((s.size : Int) - (i + 1)).toNat < mm1 from by omega) (i + 1) w4 (by omega) (by omega) (name_step hq h0 (by first | (simp [partB, fk1, fk2, fk3, fk4, fk5, fk6]; done) | (simp [partB, fk1, fk2, fk3, fk4, fk5, fk6]; omega) | (simp [partB, digitB, fk1, fk2, fk3, fk4, fk5, fk6]; done) | (simp [partB, digitB, fk1, fk2, fk3, fk4, fk5, fk6]; omega))) S4 rfl
              · skip
                refine J.head (.bool true) (congrArg Value.bool (by rw [fk6]; rfl)) ?_
                refine J.run 2 K34_14 [(38, .int .i64 i), (37, .string s), (36, .bool true), (3, .int .i64 i), (0, .string s)] w4 (by kernel_rfl) ?_
                have := byteAt_bounds s (i).toNat
                refine J.ok (OK.byte 39 9 s i (byteAt s (i).toNat) (by kernel_rfl) (by kernel_rfl) (by omega) (by omega) (rfl)) ?_
                refine J.run 3 K34_15 [(41, .bool ((byteAt s (i).toNat) != 95)), (3, .int .i64 i), (0, .string s)] w4 (by kernel_rfl) ?_
                by_cases fk7 : (byteAt s (i).toNat) = 95
                · skip
                  refine J.head (.bool false) (congrArg Value.bool (bne_eq_false_iff_eq.2 fk7)) ?_
                  refine J.run 6 K34_16 [(23, .int .i64 (IntKind.wrap .i64 (i + 1))), (0, .string s)] w4 (by kernel_rfl) ?_
                  refine J.head (.int .i64 (i + 1)) (congrArg (Value.int .i64) (IntWalk.i64_in _ (by omega))) ?_
                  refine J.run 3 K34_6 [(3, .int .i64 (i + 1)), (0, .string s)] w4 (by kernel_rfl) ?_
                  refine J.run 0 K34_6 [(3, .int .i64 (i + 1)), (0, .string s)] w4 (by kernel_rfl) ?_
                  exact ih1 _ (show ((s.size : Int) - (i + 1)).toNat < mm1 from by omega) (i + 1) w4 (by omega) (by omega) (name_step hq h0 (by first | (simp [partB, fk1, fk2, fk3, fk4, fk5, fk6, fk7]; done) | (simp [partB, fk1, fk2, fk3, fk4, fk5, fk6, fk7]; omega) | (simp [partB, digitB, fk1, fk2, fk3, fk4, fk5, fk6, fk7]; done) | (simp [partB, digitB, fk1, fk2, fk3, fk4, fk5, fk6, fk7]; omega))) S4 rfl
                · skip
                  refine J.head (.bool true) (congrArg Value.bool (bne_iff_ne.2 fk7)) ?_
                  refine J.run 5 K34_17 [(2, .bool false)] w4 (by kernel_rfl) ?_
                  refine J.ret Try.f34 [.bool false] Try.func34 ⟨by kernel_rfl, trivial⟩ ?_
                  refine hR _ _ ?_
                  exact ⟨congrArg Value.bool (name_bad h0 (by omega) (by first | (simp [partB, fk1, fk2, fk3, fk4, fk5, fk6, fk7]; done) | (simp [partB, fk1, fk2, fk3, fk4, fk5, fk6, fk7]; omega) | (simp [partB, digitB, fk1, fk2, fk3, fk4, fk5, fk6, fk7]; done) | (simp [partB, digitB, fk1, fk2, fk3, fk4, fk5, fk6, fk7]; omega))).symm, S4.nil⟩
          · skip
            refine J.head (.bool false) (congrArg Value.bool (decide_eq_false fk4)) ?_
            refine J.run 6 K34_18 [(2, .bool true)] w2 (by kernel_rfl) ?_
            refine J.ret Try.f34 [.bool true] Try.func34 ⟨by kernel_rfl, trivial⟩ ?_
            refine hR _ _ ?_
            exact ⟨congrArg Value.bool (name_yes (by omega) (by omega) hlet (fun j hj => hq j (by omega))).symm, S2.nil⟩
        exact L34_1 _ 0 w1 (by omega) (by omega) (by intro j hj; simp at hj) S1 rfl
      · skip
        refine J.head (.bool true) (congrArg Value.bool (by rw [fk3]; rfl)) ?_
        refine J.run 5 K34_19 [(2, .bool false)] w1 (by kernel_rfl) ?_
        refine J.ret Try.f34 [.bool false] Try.func34 ⟨by kernel_rfl, trivial⟩ ?_
        refine hR _ _ ?_
        exact ⟨congrArg Value.bool (name_no (by first | omega | (right; right; assumption))).symm, S1.nil⟩

theorem lim_bounds {ln : Int} (sg : Bool) (h : 1 ≤ ln ∧ ln ≤ 32) : -2147483648 ≤ lowF ln sg ∧ lowF ln sg ≤ 0 ∧ 0 ≤ highF ln sg ∧ highF ln sg ≤ 4294967295 := by
  have h1 := pow32 (n := (ln - 1).toNat) (by omega)
  have h2 := pow32 (n := ln.toNat) (by omega)
  have h3 : (2 : Int) ^ (ln - 1).toNat ≤ 2 ^ 31 := by exact_mod_cast Nat.pow_le_pow_right (by omega) (show (ln - 1).toNat ≤ 31 by omega)
  cases sg <;> simp only [lowF, highF, if_true, if_false, Bool.false_eq_true] <;> omega
theorem hb20 : HasBody Try.prog 20 := fun _ _ => by kernel_rfl
noncomputable def K20_0 : List Item := adv 2 [] (bodyOf Try.f20)
noncomputable def K20_1 : List Item := adv 7 [] (popK K20_0)
noncomputable def K20_2 : List Item := adv 1 [] (popK K20_1)
noncomputable def K20_3 : List Item := adv 2 [true] K20_2
noncomputable def K20_4 : List Item := adv 3 [false] K20_2
set_option maxRecDepth 20000 in
set_option maxHeartbeats 20000000 in
theorem lims_any (nm : ByteArray) (st ln : Int) (mo sg : Bool) (num off den low high : Int) (w : World) (hln : 1 ≤ ln ∧ ln ≤ 32) : Ret Try.prog 20 #[.agg #[.string nm, .int .i64 st, .int .i64 ln, .bool mo, .bool sg, .int .i64 num, .int .i64 off, .int .i64 den, .int .i64 low, .int .i64 high]] w (fun v w' => v = .tuple #[.int .i64 (lowF ln sg), .int .i64 (highF ln sg)] ∧ Sep w [] w') := by
  have S0 := Sep.refl w
  refine Ret.named fun R hR => ?_
  refine Ret.of_J (N := 20) [(0, .agg #[.string nm, .int .i64 st, .int .i64 ln, .bool mo, .bool sg, .int .i64 num, .int .i64 off, .int .i64 den, .int .i64 low, .int .i64 high])] Try.func20 rfl rfl (Nat.le_of_ble_eq_true (by kernel_rfl)) (by kernel_rfl) ?_
  refine J.run 2 K20_0 [(0, .agg #[.string nm, .int .i64 st, .int .i64 ln, .bool mo, .bool sg, .int .i64 num, .int .i64 off, .int .i64 den, .int .i64 low, .int .i64 high])] w (by kernel_rfl) ?_
  refine J.new S0 1 [.string nm, .int .i64 st, .int .i64 ln, .bool mo, .bool sg, .int .i64 num, .int .i64 off, .int .i64 den, .int .i64 low, .int .i64 high] 23 (by kernel_rfl) ?_
  intro b1 w1 S1
  refine J.run 7 K20_1 [(4, .pointer (some ⟨b1, 4, none⟩)), (1, .pointer (some ⟨b1, 0, none⟩))] w1 (by kernel_rfl) ?_
  refine J.ok (OK.ldBox S1 0 5 4 4 (.bool sg) (by kernel_rfl) rfl (by kernel_rfl)) ?_
  refine J.run 1 K20_2 [(5, .bool sg), (1, .pointer (some ⟨b1, 0, none⟩))] w1 (by kernel_rfl) ?_
  rcases Bool.eq_false_or_eq_true sg with fk1 | fk1
  · skip
    refine J.head (.bool true) (congrArg Value.bool fk1) ?_
    refine J.run 2 K20_3 [(1, .pointer (some ⟨b1, 0, none⟩))] w1 (by kernel_rfl) ?_
    refine J.drawStill S1 12 Try.mixed (by kernel_rfl) (by kernel_rfl) (by kernel_rfl) ?_
    intro w2 S2
    refine SL.ok (by decide) (OK.run 6 (.pointer (some ⟨b1, 2, none⟩)) (by kernel_rfl)) ?_
    refine SL.ok (by decide) (OK.ldBox S2 0 7 3 2 (.int .i64 ln) (by kernel_rfl) rfl (by kernel_rfl)) ?_
    refine SL.ok (by decide) (OK.run 8 (.int .i64 (IntKind.wrap .i64 (ln - 1))) (by kernel_rfl)) ?_
    refine SL.head (.int .i64 (ln - 1)) (congrArg (Value.int .i64) (IntWalk.i64_in _ (by omega))) ?_
    have := pow32 (n := (ln - 1).toNat) (by omega)
    refine SL.ok (by decide) (OK.shl 9 .i64 1 (ln - 1) (2 ^ (ln - 1).toNat) (by kernel_rfl) (by omega) (shl_one (by omega) (by omega))) ?_
    refine SL.ok (by decide) (OK.run 10 (.int .i64 (IntKind.wrap .i64 (0 - (2 ^ (ln - 1).toNat)))) (by kernel_rfl)) ?_
    refine SL.head (.int .i64 (0 - (2 ^ (ln - 1).toNat))) (congrArg (Value.int .i64) (IntWalk.i64_in _ (by omega))) ?_
    refine SL.ok (by decide) (OK.run 11 (.pointer (some ⟨b1, 2, none⟩)) (by kernel_rfl)) ?_
    refine SL.ok (by decide) (OK.ldBox S2 0 12 3 2 (.int .i64 ln) (by kernel_rfl) rfl (by kernel_rfl)) ?_
    refine SL.ok (by decide) (OK.run 13 (.int .i64 (IntKind.wrap .i64 (ln - 1))) (by kernel_rfl)) ?_
    refine SL.head (.int .i64 (ln - 1)) (congrArg (Value.int .i64) (IntWalk.i64_in _ (by omega))) ?_
    have := pow32 (n := (ln - 1).toNat) (by omega)
    refine SL.ok (by decide) (OK.shl 14 .i64 1 (ln - 1) (2 ^ (ln - 1).toNat) (by kernel_rfl) (by omega) (shl_one (by omega) (by omega))) ?_
    refine SL.ok (by decide) (OK.run 15 (.int .i64 (IntKind.wrap .i64 ((2 ^ (ln - 1).toNat) - 1))) (by kernel_rfl)) ?_
    refine SL.head (.int .i64 ((2 ^ (ln - 1).toNat) - 1)) (congrArg (Value.int .i64) (IntWalk.i64_in _ (by omega))) ?_
    refine SL.ok (by decide) (OK.run 2 (.int .i64 (0 - (2 ^ (ln - 1).toNat))) (by kernel_rfl)) ?_
    refine SL.ok (by decide) (OK.run 3 (.int .i64 ((2 ^ (ln - 1).toNat) - 1)) (by kernel_rfl)) ?_
    refine SL.done ?_
    refine TL.done (by kernel_rfl) ?_
    refine J.run 0 (rRest K20_3) [(3, .int .i64 ((2 ^ (ln - 1).toNat) - 1)), (2, .int .i64 (0 - (2 ^ (ln - 1).toNat)))] w2 (by kernel_rfl) ?_
    refine J.ret Try.f20 [.int .i64 (0 - (2 ^ (ln - 1).toNat)), .int .i64 ((2 ^ (ln - 1).toNat) - 1)] Try.func20 ⟨by kernel_rfl, by kernel_rfl, trivial⟩ ?_
    refine hR _ _ ?_
    exact ⟨by rw [tup_two]; simp [lowF, highF, fk1], S2.nil⟩
  · skip
    refine J.head (.bool false) (congrArg Value.bool fk1) ?_
    refine J.run 3 K20_4 [(1, .pointer (some ⟨b1, 0, none⟩))] w1 (by kernel_rfl) ?_
    refine J.drawStill S1 6 Try.mixed (by kernel_rfl) (by kernel_rfl) (by kernel_rfl) ?_
    intro w3 S3
    refine SL.ok (by decide) (OK.run 16 (.pointer (some ⟨b1, 2, none⟩)) (by kernel_rfl)) ?_
    refine SL.ok (by decide) (OK.ldBox S3 0 17 3 2 (.int .i64 ln) (by kernel_rfl) rfl (by kernel_rfl)) ?_
    have := pow32 (n := (ln).toNat) (by omega)
    refine SL.ok (by decide) (OK.shl 18 .i64 1 ln (2 ^ (ln).toNat) (by kernel_rfl) (by omega) (shl_one (by omega) (by omega))) ?_
    refine SL.ok (by decide) (OK.run 19 (.int .i64 (IntKind.wrap .i64 ((2 ^ (ln).toNat) - 1))) (by kernel_rfl)) ?_
    refine SL.head (.int .i64 ((2 ^ (ln).toNat) - 1)) (congrArg (Value.int .i64) (IntWalk.i64_in _ (by omega))) ?_
    refine SL.ok (by decide) (OK.run 2 (.int .i64 0) (by kernel_rfl)) ?_
    refine SL.ok (by decide) (OK.run 3 (.int .i64 ((2 ^ (ln).toNat) - 1)) (by kernel_rfl)) ?_
    refine SL.done ?_
    refine TL.done (by kernel_rfl) ?_
    refine J.run 0 (rRest K20_4) [(3, .int .i64 ((2 ^ (ln).toNat) - 1)), (2, .int .i64 0)] w3 (by kernel_rfl) ?_
    refine J.ret Try.f20 [.int .i64 0, .int .i64 ((2 ^ (ln).toNat) - 1)] Try.func20 ⟨by kernel_rfl, by kernel_rfl, trivial⟩ ?_
    refine hR _ _ ?_
    exact ⟨by rw [tup_two]; simp [lowF, highF, fk1], S3.nil⟩

theorem hb22 : HasBody Try.prog 22 := fun _ _ => by kernel_rfl
noncomputable def K22_0 : List Item := adv 2 [] (bodyOf Try.f22)
noncomputable def K22_1 : List Item := adv 7 [] (popK K22_0)
noncomputable def K22_2 : List Item := adv 1 [] (popK K22_1)
noncomputable def K22_3 : List Item := adv 2 [true] K22_2
noncomputable def K22_4 : List Item := adv 3 [false] K22_2
set_option maxRecDepth 20000 in
set_option maxHeartbeats 20000000 in
theorem rlims_any (nm : ByteArray) (st ln : Int) (mo sg : Bool) (num off den low high : Int) (w : World) (hln : 1 ≤ ln ∧ ln ≤ 32) : Ret Try.prog 22 #[.agg #[.string nm, .int .i64 st, .int .i64 ln, .bool mo, .bool sg, .int .i64 num, .int .i64 off, .int .i64 den, .int .i64 low, .int .i64 high]] w (fun v w' => v = .tuple #[.int .i64 (lowF ln sg), .int .i64 (highF ln sg)] ∧ Sep w [] w') := by
  have S0 := Sep.refl w
  refine Ret.named fun R hR => ?_
  refine Ret.of_J (N := 19) [(0, .agg #[.string nm, .int .i64 st, .int .i64 ln, .bool mo, .bool sg, .int .i64 num, .int .i64 off, .int .i64 den, .int .i64 low, .int .i64 high])] Try.func22 rfl rfl (Nat.le_of_ble_eq_true (by kernel_rfl)) (by kernel_rfl) ?_
  refine J.run 2 K22_0 [(0, .agg #[.string nm, .int .i64 st, .int .i64 ln, .bool mo, .bool sg, .int .i64 num, .int .i64 off, .int .i64 den, .int .i64 low, .int .i64 high])] w (by kernel_rfl) ?_
  refine J.new S0 1 [.string nm, .int .i64 st, .int .i64 ln, .bool mo, .bool sg, .int .i64 num, .int .i64 off, .int .i64 den, .int .i64 low, .int .i64 high] 23 (by kernel_rfl) ?_
  intro b1 w1 S1
  refine J.run 7 K22_1 [(4, .pointer (some ⟨b1, 4, none⟩)), (1, .pointer (some ⟨b1, 0, none⟩))] w1 (by kernel_rfl) ?_
  refine J.ok (OK.ldBox S1 0 5 4 4 (.bool sg) (by kernel_rfl) rfl (by kernel_rfl)) ?_
  refine J.run 1 K22_2 [(5, .bool sg), (1, .pointer (some ⟨b1, 0, none⟩))] w1 (by kernel_rfl) ?_
  rcases Bool.eq_false_or_eq_true sg with fk1 | fk1
  · skip
    refine J.head (.bool true) (congrArg Value.bool fk1) ?_
    refine J.run 2 K22_3 [(1, .pointer (some ⟨b1, 0, none⟩))] w1 (by kernel_rfl) ?_
    refine J.drawStill S1 11 Try.mixed (by kernel_rfl) (by kernel_rfl) (by kernel_rfl) ?_
    intro w2 S2
    refine SL.ok (by decide) (OK.run 6 (.pointer (some ⟨b1, 2, none⟩)) (by kernel_rfl)) ?_
    refine SL.ok (by decide) (OK.ldBox S2 0 7 3 2 (.int .i64 ln) (by kernel_rfl) rfl (by kernel_rfl)) ?_
    refine SL.ok (by decide) (OK.run 8 (.int .i64 (IntKind.wrap .i64 (ln - 1))) (by kernel_rfl)) ?_
    refine SL.head (.int .i64 (ln - 1)) (congrArg (Value.int .i64) (IntWalk.i64_in _ (by omega))) ?_
    have := pow32 (n := (ln - 1).toNat) (by omega)
    refine SL.ok (by decide) (OK.shl 9 .i64 (-1) (ln - 1) (-(2 ^ (ln - 1).toNat)) (by kernel_rfl) (by omega) (shl_neg (by omega) (by omega))) ?_
    refine SL.ok (by decide) (OK.run 10 (.pointer (some ⟨b1, 2, none⟩)) (by kernel_rfl)) ?_
    refine SL.ok (by decide) (OK.ldBox S2 0 11 3 2 (.int .i64 ln) (by kernel_rfl) rfl (by kernel_rfl)) ?_
    refine SL.ok (by decide) (OK.run 12 (.int .i64 (IntKind.wrap .i64 (ln - 1))) (by kernel_rfl)) ?_
    refine SL.head (.int .i64 (ln - 1)) (congrArg (Value.int .i64) (IntWalk.i64_in _ (by omega))) ?_
    have := pow32 (n := (ln - 1).toNat) (by omega)
    refine SL.ok (by decide) (OK.shl 13 .i64 1 (ln - 1) (2 ^ (ln - 1).toNat) (by kernel_rfl) (by omega) (shl_one (by omega) (by omega))) ?_
    refine SL.ok (by decide) (OK.run 14 (.int .i64 (IntKind.wrap .i64 ((2 ^ (ln - 1).toNat) - 1))) (by kernel_rfl)) ?_
    refine SL.head (.int .i64 ((2 ^ (ln - 1).toNat) - 1)) (congrArg (Value.int .i64) (IntWalk.i64_in _ (by omega))) ?_
    refine SL.ok (by decide) (OK.run 2 (.int .i64 (-(2 ^ (ln - 1).toNat))) (by kernel_rfl)) ?_
    refine SL.ok (by decide) (OK.run 3 (.int .i64 ((2 ^ (ln - 1).toNat) - 1)) (by kernel_rfl)) ?_
    refine SL.done ?_
    refine TL.done (by kernel_rfl) ?_
    refine J.run 0 (rRest K22_3) [(3, .int .i64 ((2 ^ (ln - 1).toNat) - 1)), (2, .int .i64 (-(2 ^ (ln - 1).toNat)))] w2 (by kernel_rfl) ?_
    refine J.ret Try.f22 [.int .i64 (-(2 ^ (ln - 1).toNat)), .int .i64 ((2 ^ (ln - 1).toNat) - 1)] Try.func22 ⟨by kernel_rfl, by kernel_rfl, trivial⟩ ?_
    refine hR _ _ ?_
    exact ⟨by rw [tup_two]; simp [lowF, highF, fk1], S2.nil⟩
  · skip
    refine J.head (.bool false) (congrArg Value.bool fk1) ?_
    refine J.run 3 K22_4 [(1, .pointer (some ⟨b1, 0, none⟩))] w1 (by kernel_rfl) ?_
    refine J.drawStill S1 6 Try.mixed (by kernel_rfl) (by kernel_rfl) (by kernel_rfl) ?_
    intro w3 S3
    refine SL.ok (by decide) (OK.run 15 (.pointer (some ⟨b1, 2, none⟩)) (by kernel_rfl)) ?_
    refine SL.ok (by decide) (OK.ldBox S3 0 16 3 2 (.int .i64 ln) (by kernel_rfl) rfl (by kernel_rfl)) ?_
    have := pow32 (n := (ln).toNat) (by omega)
    refine SL.ok (by decide) (OK.shl 17 .i64 1 ln (2 ^ (ln).toNat) (by kernel_rfl) (by omega) (shl_one (by omega) (by omega))) ?_
    refine SL.ok (by decide) (OK.run 18 (.int .i64 (IntKind.wrap .i64 ((2 ^ (ln).toNat) - 1))) (by kernel_rfl)) ?_
    refine SL.head (.int .i64 ((2 ^ (ln).toNat) - 1)) (congrArg (Value.int .i64) (IntWalk.i64_in _ (by omega))) ?_
    refine SL.ok (by decide) (OK.run 2 (.int .i64 0) (by kernel_rfl)) ?_
    refine SL.ok (by decide) (OK.run 3 (.int .i64 ((2 ^ (ln).toNat) - 1)) (by kernel_rfl)) ?_
    refine SL.done ?_
    refine TL.done (by kernel_rfl) ?_
    refine J.run 0 (rRest K22_4) [(3, .int .i64 ((2 ^ (ln).toNat) - 1)), (2, .int .i64 0)] w3 (by kernel_rfl) ?_
    refine J.ret Try.f22 [.int .i64 0, .int .i64 ((2 ^ (ln).toNat) - 1)] Try.func22 ⟨by kernel_rfl, by kernel_rfl, trivial⟩ ?_
    refine hR _ _ ?_
    exact ⟨by rw [tup_two]; simp [lowF, highF, fk1], S3.nil⟩

theorem hb19 : HasBody Try.prog 19 := fun _ _ => by kernel_rfl
noncomputable def K19_0 : List Item := adv 2 [] (bodyOf Try.f19)
noncomputable def K19_1 : List Item := adv 6 [] (popK K19_0)
noncomputable def K19_2 : List Item := adv 2 [] (popK (popK K19_1))
noncomputable def K19_3 : List Item := adv 1 [] K19_2
noncomputable def K19_4 : List Item := adv 3 [] (popK (popK K19_3))
noncomputable def K19_5 : List Item := adv 1 [] K19_4
noncomputable def K19_6 : List Item := adv 3 [] (popK (popK K19_5))
noncomputable def K19_7 : List Item := adv 1 [] K19_6
noncomputable def K19_8 : List Item := adv 3 [] (popK (popK K19_7))
noncomputable def K19_9 : List Item := adv 1 [] K19_8
noncomputable def K19_10 : List Item := adv 3 [] (popK (popK K19_9))
noncomputable def K19_11 : List Item := adv 1 [] K19_10
noncomputable def K19_12 : List Item := adv 3 [] (popK (popK K19_11))
noncomputable def K19_13 : List Item := adv 4 [false] K19_12
noncomputable def K19_14 : List Item := adv 10 [] (popK (popK K19_13))
noncomputable def K19_15 : List Item := adv 2 [] (popK K19_14)
noncomputable def K19_16 : List Item := adv 1 [] K19_15
noncomputable def K19_17 : List Item := adv 1 [] (popK K19_16)
noncomputable def K19_18 : List Item := adv 3 [] (popK K19_17)
noncomputable def K19_19 : List Item := adv 1 [] K19_18
noncomputable def K19_20 : List Item := adv 5 [] (popK K19_19)
noncomputable def K19_21 : List Item := adv 7 [] K19_18
noncomputable def K19_22 : List Item := adv 14 [] K19_15
noncomputable def K19_23 : List Item := adv 5 [true] K19_12
noncomputable def K19_24 : List Item := adv 11 [true] K19_10
noncomputable def K19_25 : List Item := adv 17 [true] K19_8
noncomputable def K19_26 : List Item := adv 23 [true] K19_6
noncomputable def K19_27 : List Item := adv 29 [true] K19_4
noncomputable def K19_28 : List Item := adv 35 [true] K19_2
set_option maxRecDepth 20000 in
set_option maxHeartbeats 20000000 in
theorem valid_any (nm : ByteArray) (st ln : Int) (mo sg : Bool) (num off den low high : Int) (w : World) (hnm : nm.size ≤ 9223372036854775807) : Ret Try.prog 19 #[.agg #[.string nm, .int .i64 st, .int .i64 ln, .bool mo, .bool sg, .int .i64 num, .int .i64 off, .int .i64 den, .int .i64 low, .int .i64 high]] w (fun v w' => v = .bool (sigB nm st ln mo sg num off den low high) ∧ Sep w [] w') := by
  have S0 := Sep.refl w
  refine Ret.named fun R hR => ?_
  refine Ret.of_J (N := 61) [(0, .agg #[.string nm, .int .i64 st, .int .i64 ln, .bool mo, .bool sg, .int .i64 num, .int .i64 off, .int .i64 den, .int .i64 low, .int .i64 high])] Try.func19 rfl rfl (Nat.le_of_ble_eq_true (by kernel_rfl)) (by kernel_rfl) ?_
  refine J.run 2 K19_0 [(0, .agg #[.string nm, .int .i64 st, .int .i64 ln, .bool mo, .bool sg, .int .i64 num, .int .i64 off, .int .i64 den, .int .i64 low, .int .i64 high])] w (by kernel_rfl) ?_
  refine J.new S0 1 [.string nm, .int .i64 st, .int .i64 ln, .bool mo, .bool sg, .int .i64 num, .int .i64 off, .int .i64 den, .int .i64 low, .int .i64 high] 23 (by kernel_rfl) ?_
  intro b1 w1 S1
  refine J.run 6 K19_1 [(5, .pointer (some ⟨b1, 0, none⟩)), (1, .pointer (some ⟨b1, 0, none⟩))] w1 (by kernel_rfl) ?_
  refine J.ok (OK.ldBox S1 0 6 9 0 (.string nm) (by kernel_rfl) rfl (by kernel_rfl)) ?_
  refine J.callF 7 28 #[.string nm] hb28 (by kernel_rfl) (name_any nm _ (by omega)) ?_
  rintro _ w2 ⟨rfl, T1⟩
  have S2 : Sep w [box b1 [.string nm, .int .i64 st, .int .i64 ln, .bool mo, .bool sg, .int .i64 num, .int .i64 off, .int .i64 den, .int .i64 low, .int .i64 high] 23] w2 := S1.trans T1
  clear T1 S1
  refine J.run 2 K19_2 [(9, .bool (!(nameB nm))), (1, .pointer (some ⟨b1, 0, none⟩))] w2 (by kernel_rfl) ?_
  rcases Bool.eq_false_or_eq_true (nameB nm) with fk1 | fk1
  · skip
    refine J.head (.bool false) (congrArg Value.bool (by rw [fk1]; rfl)) ?_
    refine J.run 1 K19_3 [(10, .pointer (some ⟨b1, 2, none⟩)), (9, .bool false), (1, .pointer (some ⟨b1, 0, none⟩))] w2 (by kernel_rfl) ?_
    refine J.ok (OK.ldBox S2 0 11 3 2 (.int .i64 ln) (by kernel_rfl) rfl (by kernel_rfl)) ?_
    refine J.callF 12 29 #[.int .i64 ln, .int .i64 1, .int .i64 32] hb29 (by kernel_rfl) (in_any ln 1 32 _) ?_
    rintro _ w3 ⟨rfl, T2⟩
    have S3 : Sep w [box b1 [.string nm, .int .i64 st, .int .i64 ln, .bool mo, .bool sg, .int .i64 num, .int .i64 off, .int .i64 den, .int .i64 low, .int .i64 high] 23] w3 := S2.trans T2
    clear T2 S2
    refine J.run 3 K19_4 [(15, .bool (!(inB ln 1 32))), (1, .pointer (some ⟨b1, 0, none⟩))] w3 (by kernel_rfl) ?_
    rcases Bool.eq_false_or_eq_true (inB ln 1 32) with fk2 | fk2
    · skip
      refine J.head (.bool false) (congrArg Value.bool (by rw [fk2]; rfl)) ?_
      have fb1 := inB_iff.1 fk2
      refine J.run 1 K19_5 [(16, .pointer (some ⟨b1, 1, none⟩)), (15, .bool false), (1, .pointer (some ⟨b1, 0, none⟩))] w3 (by kernel_rfl) ?_
      refine J.ok (OK.ldBox S3 0 17 3 1 (.int .i64 st) (by kernel_rfl) rfl (by kernel_rfl)) ?_
      refine J.callF 18 29 #[.int .i64 st, .int .i64 0, .int .i64 63] hb29 (by kernel_rfl) (in_any st 0 63 _) ?_
      rintro _ w4 ⟨rfl, T3⟩
      have S4 : Sep w [box b1 [.string nm, .int .i64 st, .int .i64 ln, .bool mo, .bool sg, .int .i64 num, .int .i64 off, .int .i64 den, .int .i64 low, .int .i64 high] 23] w4 := S3.trans T3
      clear T3 S3
      refine J.run 3 K19_6 [(21, .bool (!(inB st 0 63))), (1, .pointer (some ⟨b1, 0, none⟩))] w4 (by kernel_rfl) ?_
      rcases Bool.eq_false_or_eq_true (inB st 0 63) with fk3 | fk3
      · skip
        refine J.head (.bool false) (congrArg Value.bool (by rw [fk3]; rfl)) ?_
        have fb2 := inB_iff.1 fk3
        refine J.run 1 K19_7 [(22, .pointer (some ⟨b1, 5, none⟩)), (21, .bool false), (1, .pointer (some ⟨b1, 0, none⟩))] w4 (by kernel_rfl) ?_
        refine J.ok (OK.ldBox S4 0 23 3 5 (.int .i64 num) (by kernel_rfl) rfl (by kernel_rfl)) ?_
        refine J.callF 24 29 #[.int .i64 num, .int .i64 1, .int .i64 1048576] hb29 (by kernel_rfl) (in_any num 1 1048576 _) ?_
        rintro _ w5 ⟨rfl, T4⟩
        have S5 : Sep w [box b1 [.string nm, .int .i64 st, .int .i64 ln, .bool mo, .bool sg, .int .i64 num, .int .i64 off, .int .i64 den, .int .i64 low, .int .i64 high] 23] w5 := S4.trans T4
        clear T4 S4
        refine J.run 3 K19_8 [(27, .bool (!(inB num 1 1048576))), (1, .pointer (some ⟨b1, 0, none⟩))] w5 (by kernel_rfl) ?_
        rcases Bool.eq_false_or_eq_true (inB num 1 1048576) with fk4 | fk4
        · skip
          refine J.head (.bool false) (congrArg Value.bool (by rw [fk4]; rfl)) ?_
          have fb3 := inB_iff.1 fk4
          refine J.run 1 K19_9 [(28, .pointer (some ⟨b1, 7, none⟩)), (27, .bool false), (1, .pointer (some ⟨b1, 0, none⟩))] w5 (by kernel_rfl) ?_
          refine J.ok (OK.ldBox S5 0 29 3 7 (.int .i64 den) (by kernel_rfl) rfl (by kernel_rfl)) ?_
          refine J.callF 30 29 #[.int .i64 den, .int .i64 1, .int .i64 1048576] hb29 (by kernel_rfl) (in_any den 1 1048576 _) ?_
          rintro _ w6 ⟨rfl, T5⟩
          have S6 : Sep w [box b1 [.string nm, .int .i64 st, .int .i64 ln, .bool mo, .bool sg, .int .i64 num, .int .i64 off, .int .i64 den, .int .i64 low, .int .i64 high] 23] w6 := S5.trans T5
          clear T5 S5
          refine J.run 3 K19_10 [(33, .bool (!(inB den 1 1048576))), (1, .pointer (some ⟨b1, 0, none⟩))] w6 (by kernel_rfl) ?_
          rcases Bool.eq_false_or_eq_true (inB den 1 1048576) with fk5 | fk5
          · skip
            refine J.head (.bool false) (congrArg Value.bool (by rw [fk5]; rfl)) ?_
            have fb4 := inB_iff.1 fk5
            refine J.run 1 K19_11 [(34, .pointer (some ⟨b1, 6, none⟩)), (33, .bool false), (1, .pointer (some ⟨b1, 0, none⟩))] w6 (by kernel_rfl) ?_
            refine J.ok (OK.ldBox S6 0 35 3 6 (.int .i64 off) (by kernel_rfl) rfl (by kernel_rfl)) ?_
            refine J.callF 36 29 #[.int .i64 off, .int .i64 (-1073741824), .int .i64 1073741824] hb29 (by kernel_rfl) (in_any off (-1073741824) 1073741824 _) ?_
            rintro _ w7 ⟨rfl, T6⟩
            have S7 : Sep w [box b1 [.string nm, .int .i64 st, .int .i64 ln, .bool mo, .bool sg, .int .i64 num, .int .i64 off, .int .i64 den, .int .i64 low, .int .i64 high] 23] w7 := S6.trans T6
            clear T6 S6
            refine J.run 3 K19_12 [(38, .bool (!(inB off (-1073741824) 1073741824))), (1, .pointer (some ⟨b1, 0, none⟩))] w7 (by kernel_rfl) ?_
            rcases Bool.eq_false_or_eq_true (inB off (-1073741824) 1073741824) with fk6 | fk6
            · skip
              refine J.head (.bool false) (congrArg Value.bool (by rw [fk6]; rfl)) ?_
              have fb5 := inB_iff.1 fk6
              refine J.run 4 K19_13 [(1, .pointer (some ⟨b1, 0, none⟩))] w7 (by kernel_rfl) ?_
              refine J.ok (OK.ldBox S7 0 40 23 0 (.agg #[.string nm, .int .i64 st, .int .i64 ln, .bool mo, .bool sg, .int .i64 num, .int .i64 off, .int .i64 den, .int .i64 low, .int .i64 high]) (by kernel_rfl) rfl (by kernel_rfl)) ?_
              have := lim_bounds (ln := ln) sg (by omega)
              refine J.callF 41 20 #[.agg #[.string nm, .int .i64 st, .int .i64 ln, .bool mo, .bool sg, .int .i64 num, .int .i64 off, .int .i64 den, .int .i64 low, .int .i64 high]] hb20 (by kernel_rfl) (lims_any nm st ln mo sg num off den low high _ (by omega)) ?_
              rintro _ w8 ⟨rfl, T7⟩
              have S8 : Sep w [box b1 [.string nm, .int .i64 st, .int .i64 ln, .bool mo, .bool sg, .int .i64 num, .int .i64 off, .int .i64 den, .int .i64 low, .int .i64 high] 23] w8 := S7.trans T7
              clear T7 S7
              refine J.run 10 K19_14 [(45, .pointer (some ⟨b1, 8, none⟩)), (44, .int .i64 (lowF ln sg)), (4, .int .i64 (highF ln sg)), (1, .pointer (some ⟨b1, 0, none⟩))] w8 (by kernel_rfl) ?_
              refine J.ok (OK.ldBox S8 0 46 3 8 (.int .i64 low) (by kernel_rfl) rfl (by kernel_rfl)) ?_
              refine J.run 2 K19_15 [(48, .bool (decide ((lowF ln sg) ≤ low))), (4, .int .i64 (highF ln sg)), (1, .pointer (some ⟨b1, 0, none⟩))] w8 (by kernel_rfl) ?_
              by_cases fk7 : (lowF ln sg) ≤ low
              · skip
                refine J.head (.bool true) (congrArg Value.bool (decide_eq_true fk7)) ?_
                refine J.run 1 K19_16 [(49, .pointer (some ⟨b1, 8, none⟩)), (48, .bool true), (4, .int .i64 (highF ln sg)), (1, .pointer (some ⟨b1, 0, none⟩))] w8 (by kernel_rfl) ?_
                refine J.ok (OK.ldBox S8 0 50 3 8 (.int .i64 low) (by kernel_rfl) rfl (by kernel_rfl)) ?_
                refine J.run 1 K19_17 [(51, .pointer (some ⟨b1, 9, none⟩)), (50, .int .i64 low), (48, .bool true), (4, .int .i64 (highF ln sg)), (1, .pointer (some ⟨b1, 0, none⟩))] w8 (by kernel_rfl) ?_
                refine J.ok (OK.ldBox S8 0 52 3 9 (.int .i64 high) (by kernel_rfl) rfl (by kernel_rfl)) ?_
                refine J.run 3 K19_18 [(55, .bool (decide (low ≤ high))), (4, .int .i64 (highF ln sg)), (1, .pointer (some ⟨b1, 0, none⟩))] w8 (by kernel_rfl) ?_
                by_cases fk8 : low ≤ high
                · skip
                  refine J.head (.bool true) (congrArg Value.bool (decide_eq_true fk8)) ?_
                  refine J.run 1 K19_19 [(56, .pointer (some ⟨b1, 9, none⟩)), (55, .bool true), (4, .int .i64 (highF ln sg))] w8 (by kernel_rfl) ?_
                  refine J.ok (OK.ldBox S8 0 57 3 9 (.int .i64 high) (by kernel_rfl) rfl (by kernel_rfl)) ?_
                  refine J.run 5 K19_20 [(2, .bool (decide (high ≤ (highF ln sg))))] w8 (by kernel_rfl) ?_
                  refine J.ret Try.f19 [.bool (decide (high ≤ (highF ln sg)))] Try.func19 ⟨by kernel_rfl, trivial⟩ ?_
                  refine hR _ _ ?_
                  exact ⟨congrArg Value.bool (by first | (simp [sigB, fk1, fk2, fk3, fk4, fk5, fk6, fk7, fk8]; done) | (simp [sigB, fk1, fk2, fk3, fk4, fk5, fk6, fk7, fk8]; omega) | (simp [sigB, inB, fk1, fk2, fk3, fk4, fk5, fk6, fk7, fk8]; done) | (simp [sigB, inB, fk1, fk2, fk3, fk4, fk5, fk6, fk7, fk8]; omega) | (simp [sigB, inB, fk1, fk2, fk3, fk4, fk5, fk6, fk7, fk8]; intros; omega)), S8.nil⟩
                · skip
                  refine J.head (.bool false) (congrArg Value.bool (decide_eq_false fk8)) ?_
                  refine J.run 7 K19_21 [(2, .bool false)] w8 (by kernel_rfl) ?_
                  refine J.ret Try.f19 [.bool false] Try.func19 ⟨by kernel_rfl, trivial⟩ ?_
                  refine hR _ _ ?_
                  exact ⟨congrArg Value.bool (by first | (simp [sigB, fk1, fk2, fk3, fk4, fk5, fk6, fk7, fk8]; done) | (simp [sigB, fk1, fk2, fk3, fk4, fk5, fk6, fk7, fk8]; omega) | (simp [sigB, inB, fk1, fk2, fk3, fk4, fk5, fk6, fk7, fk8]; done) | (simp [sigB, inB, fk1, fk2, fk3, fk4, fk5, fk6, fk7, fk8]; omega) | (simp [sigB, inB, fk1, fk2, fk3, fk4, fk5, fk6, fk7, fk8]; intros; omega)), S8.nil⟩
              · skip
                refine J.head (.bool false) (congrArg Value.bool (decide_eq_false fk7)) ?_
                refine J.run 14 K19_22 [(2, .bool false)] w8 (by kernel_rfl) ?_
                refine J.ret Try.f19 [.bool false] Try.func19 ⟨by kernel_rfl, trivial⟩ ?_
                refine hR _ _ ?_
                exact ⟨congrArg Value.bool (by first | (simp [sigB, fk1, fk2, fk3, fk4, fk5, fk6, fk7]; done) | (simp [sigB, fk1, fk2, fk3, fk4, fk5, fk6, fk7]; omega) | (simp [sigB, inB, fk1, fk2, fk3, fk4, fk5, fk6, fk7]; done) | (simp [sigB, inB, fk1, fk2, fk3, fk4, fk5, fk6, fk7]; omega) | (simp [sigB, inB, fk1, fk2, fk3, fk4, fk5, fk6, fk7]; intros; omega)), S8.nil⟩
            · skip
              refine J.head (.bool true) (congrArg Value.bool (by rw [fk6]; rfl)) ?_
              have fb6 := inB_not fk6
              refine J.run 5 K19_23 [(2, .bool false)] w7 (by kernel_rfl) ?_
              refine J.ret Try.f19 [.bool false] Try.func19 ⟨by kernel_rfl, trivial⟩ ?_
              refine hR _ _ ?_
              exact ⟨congrArg Value.bool (by first | (simp [sigB, fk1, fk2, fk3, fk4, fk5, fk6]; done) | (simp [sigB, fk1, fk2, fk3, fk4, fk5, fk6]; omega) | (simp [sigB, inB, fk1, fk2, fk3, fk4, fk5, fk6]; done) | (simp [sigB, inB, fk1, fk2, fk3, fk4, fk5, fk6]; omega) | (simp [sigB, inB, fk1, fk2, fk3, fk4, fk5, fk6]; intros; omega)), S7.nil⟩
          · skip
            refine J.head (.bool true) (congrArg Value.bool (by rw [fk5]; rfl)) ?_
            have fb7 := inB_not fk5
            refine J.run 11 K19_24 [(2, .bool false)] w6 (by kernel_rfl) ?_
            refine J.ret Try.f19 [.bool false] Try.func19 ⟨by kernel_rfl, trivial⟩ ?_
            refine hR _ _ ?_
            exact ⟨congrArg Value.bool (by first | (simp [sigB, fk1, fk2, fk3, fk4, fk5]; done) | (simp [sigB, fk1, fk2, fk3, fk4, fk5]; omega) | (simp [sigB, inB, fk1, fk2, fk3, fk4, fk5]; done) | (simp [sigB, inB, fk1, fk2, fk3, fk4, fk5]; omega) | (simp [sigB, inB, fk1, fk2, fk3, fk4, fk5]; intros; omega)), S6.nil⟩
        · skip
          refine J.head (.bool true) (congrArg Value.bool (by rw [fk4]; rfl)) ?_
          have fb8 := inB_not fk4
          refine J.run 17 K19_25 [(2, .bool false)] w5 (by kernel_rfl) ?_
          refine J.ret Try.f19 [.bool false] Try.func19 ⟨by kernel_rfl, trivial⟩ ?_
          refine hR _ _ ?_
          exact ⟨congrArg Value.bool (by first | (simp [sigB, fk1, fk2, fk3, fk4]; done) | (simp [sigB, fk1, fk2, fk3, fk4]; omega) | (simp [sigB, inB, fk1, fk2, fk3, fk4]; done) | (simp [sigB, inB, fk1, fk2, fk3, fk4]; omega) | (simp [sigB, inB, fk1, fk2, fk3, fk4]; intros; omega)), S5.nil⟩
      · skip
        refine J.head (.bool true) (congrArg Value.bool (by rw [fk3]; rfl)) ?_
        have fb9 := inB_not fk3
        refine J.run 23 K19_26 [(2, .bool false)] w4 (by kernel_rfl) ?_
        refine J.ret Try.f19 [.bool false] Try.func19 ⟨by kernel_rfl, trivial⟩ ?_
        refine hR _ _ ?_
        exact ⟨congrArg Value.bool (by first | (simp [sigB, fk1, fk2, fk3]; done) | (simp [sigB, fk1, fk2, fk3]; omega) | (simp [sigB, inB, fk1, fk2, fk3]; done) | (simp [sigB, inB, fk1, fk2, fk3]; omega) | (simp [sigB, inB, fk1, fk2, fk3]; intros; omega)), S4.nil⟩
    · skip
      refine J.head (.bool true) (congrArg Value.bool (by rw [fk2]; rfl)) ?_
      have fb10 := inB_not fk2
      refine J.run 29 K19_27 [(2, .bool false)] w3 (by kernel_rfl) ?_
      refine J.ret Try.f19 [.bool false] Try.func19 ⟨by kernel_rfl, trivial⟩ ?_
      refine hR _ _ ?_
      exact ⟨congrArg Value.bool (by first | (simp [sigB, fk1, fk2]; done) | (simp [sigB, fk1, fk2]; omega) | (simp [sigB, inB, fk1, fk2]; done) | (simp [sigB, inB, fk1, fk2]; omega) | (simp [sigB, inB, fk1, fk2]; intros; omega)), S3.nil⟩
  · skip
    refine J.head (.bool true) (congrArg Value.bool (by rw [fk1]; rfl)) ?_
    refine J.run 35 K19_28 [(2, .bool false)] w2 (by kernel_rfl) ?_
    refine J.ret Try.f19 [.bool false] Try.func19 ⟨by kernel_rfl, trivial⟩ ?_
    refine hR _ _ ?_
    exact ⟨congrArg Value.bool (by first | (simp [sigB, fk1]; done) | (simp [sigB, fk1]; omega) | (simp [sigB, inB, fk1]; done) | (simp [sigB, inB, fk1]; omega) | (simp [sigB, inB, fk1]; intros; omega)), S2.nil⟩

theorem hb21 : HasBody Try.prog 21 := fun _ _ => by kernel_rfl
noncomputable def K21_0 : List Item := adv 2 [] (bodyOf Try.f21)
noncomputable def K21_1 : List Item := adv 6 [] (popK K21_0)
noncomputable def K21_2 : List Item := adv 2 [] (popK (popK K21_1))
noncomputable def K21_3 : List Item := adv 1 [] K21_2
noncomputable def K21_4 : List Item := adv 3 [] (popK K21_3)
noncomputable def K21_5 : List Item := adv 20 [true] K21_4
noncomputable def K21_6 : List Item := adv 1 [] K21_4
noncomputable def K21_7 : List Item := adv 3 [] (popK K21_6)
noncomputable def K21_8 : List Item := adv 15 [true] K21_7
noncomputable def K21_9 : List Item := adv 1 [] K21_7
noncomputable def K21_10 : List Item := adv 3 [] (popK K21_9)
noncomputable def K21_11 : List Item := adv 10 [true] K21_10
noncomputable def K21_12 : List Item := adv 1 [] K21_10
noncomputable def K21_13 : List Item := adv 3 [] (popK K21_12)
noncomputable def K21_14 : List Item := adv 5 [true] K21_13
noncomputable def K21_15 : List Item := adv 4 [false] K21_13
noncomputable def K21_16 : List Item := adv 9 [] (popK (popK K21_15))
noncomputable def K21_17 : List Item := adv 2 [] (popK K21_16)
noncomputable def K21_18 : List Item := adv 1 [] K21_17
noncomputable def K21_19 : List Item := adv 3 [] (popK K21_18)
noncomputable def K21_20 : List Item := adv 1 [] K21_19
noncomputable def K21_21 : List Item := adv 3 [] (popK K21_20)
noncomputable def K21_22 : List Item := adv 1 [] K21_21
noncomputable def K21_23 : List Item := adv 3 [] (popK K21_22)
noncomputable def K21_24 : List Item := adv 1 [] K21_23
noncomputable def K21_25 : List Item := adv 3 [] (popK K21_24)
noncomputable def K21_26 : List Item := adv 1 [] K21_25
noncomputable def K21_27 : List Item := adv 3 [] (popK K21_26)
noncomputable def K21_28 : List Item := adv 1 [] K21_27
noncomputable def K21_29 : List Item := adv 1 [] (popK K21_28)
noncomputable def K21_30 : List Item := adv 3 [] (popK K21_29)
noncomputable def K21_31 : List Item := adv 1 [] K21_30
noncomputable def K21_32 : List Item := adv 4 [] (popK K21_31)
noncomputable def K21_33 : List Item := adv 1 [] K21_32
noncomputable def K21_34 : List Item := adv 5 [] (popK K21_33)
noncomputable def K21_35 : List Item := adv 7 [] K21_32
noncomputable def K21_36 : List Item := adv 13 [] K21_30
noncomputable def K21_37 : List Item := adv 20 [] K21_27
noncomputable def K21_38 : List Item := adv 25 [] K21_25
noncomputable def K21_39 : List Item := adv 30 [] K21_23
noncomputable def K21_40 : List Item := adv 35 [] K21_21
noncomputable def K21_41 : List Item := adv 40 [] K21_19
noncomputable def K21_42 : List Item := adv 45 [] K21_17
noncomputable def K21_43 : List Item := adv 25 [true] K21_2
set_option maxRecDepth 20000 in
set_option maxHeartbeats 20000000 in
theorem rsignal_any (nm : ByteArray) (st ln : Int) (mo sg : Bool) (num off den low high : Int) (w : World) (hnm : nm.size ≤ 9223372036854775807) : Ret Try.prog 21 #[.agg #[.string nm, .int .i64 st, .int .i64 ln, .bool mo, .bool sg, .int .i64 num, .int .i64 off, .int .i64 den, .int .i64 low, .int .i64 high]] w (fun v w' => v = .bool (sigB nm st ln mo sg num off den low high) ∧ Sep w [] w') := by
  have S0 := Sep.refl w
  refine Ret.named fun R hR => ?_
  refine Ret.of_J (N := 81) [(0, .agg #[.string nm, .int .i64 st, .int .i64 ln, .bool mo, .bool sg, .int .i64 num, .int .i64 off, .int .i64 den, .int .i64 low, .int .i64 high])] Try.func21 rfl rfl (Nat.le_of_ble_eq_true (by kernel_rfl)) (by kernel_rfl) ?_
  refine J.run 2 K21_0 [(0, .agg #[.string nm, .int .i64 st, .int .i64 ln, .bool mo, .bool sg, .int .i64 num, .int .i64 off, .int .i64 den, .int .i64 low, .int .i64 high])] w (by kernel_rfl) ?_
  refine J.new S0 1 [.string nm, .int .i64 st, .int .i64 ln, .bool mo, .bool sg, .int .i64 num, .int .i64 off, .int .i64 den, .int .i64 low, .int .i64 high] 23 (by kernel_rfl) ?_
  intro b1 w1 S1
  refine J.run 6 K21_1 [(5, .pointer (some ⟨b1, 0, none⟩)), (1, .pointer (some ⟨b1, 0, none⟩))] w1 (by kernel_rfl) ?_
  refine J.ok (OK.ldBox S1 0 6 9 0 (.string nm) (by kernel_rfl) rfl (by kernel_rfl)) ?_
  refine J.callF 7 34 #[.string nm] hb34 (by kernel_rfl) (rname_any nm _ (by omega)) ?_
  rintro _ w2 ⟨rfl, T1⟩
  have S2 : Sep w [box b1 [.string nm, .int .i64 st, .int .i64 ln, .bool mo, .bool sg, .int .i64 num, .int .i64 off, .int .i64 den, .int .i64 low, .int .i64 high] 23] w2 := S1.trans T1
  clear T1 S1
  refine J.run 2 K21_2 [(9, .bool (!(nameB nm))), (1, .pointer (some ⟨b1, 0, none⟩))] w2 (by kernel_rfl) ?_
  rcases Bool.eq_false_or_eq_true (nameB nm) with fk1 | fk1
  · skip
    refine J.head (.bool false) (congrArg Value.bool (by rw [fk1]; rfl)) ?_
    refine J.run 1 K21_3 [(10, .pointer (some ⟨b1, 2, none⟩)), (9, .bool false), (1, .pointer (some ⟨b1, 0, none⟩))] w2 (by kernel_rfl) ?_
    refine J.ok (OK.ldBox S2 0 11 3 2 (.int .i64 ln) (by kernel_rfl) rfl (by kernel_rfl)) ?_
    refine J.run 3 K21_4 [(14, .bool (decide (ln < 1))), (1, .pointer (some ⟨b1, 0, none⟩))] w2 (by kernel_rfl) ?_
    by_cases fk2 : ln < 1
    · skip
      refine J.head (.bool true) (congrArg Value.bool (decide_eq_true fk2)) ?_
      refine J.run 20 K21_5 [(2, .bool false)] w2 (by kernel_rfl) ?_
      refine J.ret Try.f21 [.bool false] Try.func21 ⟨by kernel_rfl, trivial⟩ ?_
      refine hR _ _ ?_
      exact ⟨congrArg Value.bool (by first | (simp [sigB, fk1, fk2]; done) | (simp [sigB, fk1, fk2]; omega) | (simp [sigB, inB, fk1, fk2]; done) | (simp [sigB, inB, fk1, fk2]; omega) | (simp [sigB, inB, fk1, fk2]; intros; omega)), S2.nil⟩
    · skip
      refine J.head (.bool false) (congrArg Value.bool (decide_eq_false fk2)) ?_
      refine J.run 1 K21_6 [(15, .pointer (some ⟨b1, 2, none⟩)), (14, .bool false), (1, .pointer (some ⟨b1, 0, none⟩))] w2 (by kernel_rfl) ?_
      refine J.ok (OK.ldBox S2 0 16 3 2 (.int .i64 ln) (by kernel_rfl) rfl (by kernel_rfl)) ?_
      refine J.run 3 K21_7 [(19, .bool (decide (ln > 32))), (1, .pointer (some ⟨b1, 0, none⟩))] w2 (by kernel_rfl) ?_
      by_cases fk3 : ln > 32
      · skip
        refine J.head (.bool true) (congrArg Value.bool (decide_eq_true fk3)) ?_
        refine J.run 15 K21_8 [(2, .bool false)] w2 (by kernel_rfl) ?_
        refine J.ret Try.f21 [.bool false] Try.func21 ⟨by kernel_rfl, trivial⟩ ?_
        refine hR _ _ ?_
        exact ⟨congrArg Value.bool (by first | (simp [sigB, fk1, fk2, fk3]; done) | (simp [sigB, fk1, fk2, fk3]; omega) | (simp [sigB, inB, fk1, fk2, fk3]; done) | (simp [sigB, inB, fk1, fk2, fk3]; omega) | (simp [sigB, inB, fk1, fk2, fk3]; intros; omega)), S2.nil⟩
      · skip
        refine J.head (.bool false) (congrArg Value.bool (decide_eq_false fk3)) ?_
        refine J.run 1 K21_9 [(20, .pointer (some ⟨b1, 1, none⟩)), (19, .bool false), (1, .pointer (some ⟨b1, 0, none⟩))] w2 (by kernel_rfl) ?_
        refine J.ok (OK.ldBox S2 0 21 3 1 (.int .i64 st) (by kernel_rfl) rfl (by kernel_rfl)) ?_
        refine J.run 3 K21_10 [(24, .bool (decide (st < 0))), (1, .pointer (some ⟨b1, 0, none⟩))] w2 (by kernel_rfl) ?_
        by_cases fk4 : st < 0
        · skip
          refine J.head (.bool true) (congrArg Value.bool (decide_eq_true fk4)) ?_
          refine J.run 10 K21_11 [(2, .bool false)] w2 (by kernel_rfl) ?_
          refine J.ret Try.f21 [.bool false] Try.func21 ⟨by kernel_rfl, trivial⟩ ?_
          refine hR _ _ ?_
          exact ⟨congrArg Value.bool (by first | (simp [sigB, fk1, fk2, fk3, fk4]; done) | (simp [sigB, fk1, fk2, fk3, fk4]; omega) | (simp [sigB, inB, fk1, fk2, fk3, fk4]; done) | (simp [sigB, inB, fk1, fk2, fk3, fk4]; omega) | (simp [sigB, inB, fk1, fk2, fk3, fk4]; intros; omega)), S2.nil⟩
        · skip
          refine J.head (.bool false) (congrArg Value.bool (decide_eq_false fk4)) ?_
          refine J.run 1 K21_12 [(25, .pointer (some ⟨b1, 1, none⟩)), (24, .bool false), (1, .pointer (some ⟨b1, 0, none⟩))] w2 (by kernel_rfl) ?_
          refine J.ok (OK.ldBox S2 0 26 3 1 (.int .i64 st) (by kernel_rfl) rfl (by kernel_rfl)) ?_
          refine J.run 3 K21_13 [(28, .bool (decide (st > 63))), (1, .pointer (some ⟨b1, 0, none⟩))] w2 (by kernel_rfl) ?_
          by_cases fk5 : st > 63
          · skip
            refine J.head (.bool true) (congrArg Value.bool (decide_eq_true fk5)) ?_
            refine J.run 5 K21_14 [(2, .bool false)] w2 (by kernel_rfl) ?_
            refine J.ret Try.f21 [.bool false] Try.func21 ⟨by kernel_rfl, trivial⟩ ?_
            refine hR _ _ ?_
            exact ⟨congrArg Value.bool (by first | (simp [sigB, fk1, fk2, fk3, fk4, fk5]; done) | (simp [sigB, fk1, fk2, fk3, fk4, fk5]; omega) | (simp [sigB, inB, fk1, fk2, fk3, fk4, fk5]; done) | (simp [sigB, inB, fk1, fk2, fk3, fk4, fk5]; omega) | (simp [sigB, inB, fk1, fk2, fk3, fk4, fk5]; intros; omega)), S2.nil⟩
          · skip
            refine J.head (.bool false) (congrArg Value.bool (decide_eq_false fk5)) ?_
            refine J.run 4 K21_15 [(1, .pointer (some ⟨b1, 0, none⟩))] w2 (by kernel_rfl) ?_
            refine J.ok (OK.ldBox S2 0 30 23 0 (.agg #[.string nm, .int .i64 st, .int .i64 ln, .bool mo, .bool sg, .int .i64 num, .int .i64 off, .int .i64 den, .int .i64 low, .int .i64 high]) (by kernel_rfl) rfl (by kernel_rfl)) ?_
            have := lim_bounds (ln := ln) sg (by omega)
            refine J.callF 31 22 #[.agg #[.string nm, .int .i64 st, .int .i64 ln, .bool mo, .bool sg, .int .i64 num, .int .i64 off, .int .i64 den, .int .i64 low, .int .i64 high]] hb22 (by kernel_rfl) (rlims_any nm st ln mo sg num off den low high _ (by omega)) ?_
            rintro _ w3 ⟨rfl, T2⟩
            have S3 : Sep w [box b1 [.string nm, .int .i64 st, .int .i64 ln, .bool mo, .bool sg, .int .i64 num, .int .i64 off, .int .i64 den, .int .i64 low, .int .i64 high] 23] w3 := S2.trans T2
            clear T2 S2
            refine J.run 9 K21_16 [(34, .pointer (some ⟨b1, 5, none⟩)), (4, .int .i64 (highF ln sg)), (3, .int .i64 (lowF ln sg)), (1, .pointer (some ⟨b1, 0, none⟩))] w3 (by kernel_rfl) ?_
            refine J.ok (OK.ldBox S3 0 35 3 5 (.int .i64 num) (by kernel_rfl) rfl (by kernel_rfl)) ?_
            refine J.run 2 K21_17 [(37, .bool (decide (num ≥ 1))), (4, .int .i64 (highF ln sg)), (3, .int .i64 (lowF ln sg)), (1, .pointer (some ⟨b1, 0, none⟩))] w3 (by kernel_rfl) ?_
            by_cases fk6 : num ≥ 1
            · skip
              refine J.head (.bool true) (congrArg Value.bool (decide_eq_true fk6)) ?_
              refine J.run 1 K21_18 [(38, .pointer (some ⟨b1, 5, none⟩)), (37, .bool true), (4, .int .i64 (highF ln sg)), (3, .int .i64 (lowF ln sg)), (1, .pointer (some ⟨b1, 0, none⟩))] w3 (by kernel_rfl) ?_
              refine J.ok (OK.ldBox S3 0 39 3 5 (.int .i64 num) (by kernel_rfl) rfl (by kernel_rfl)) ?_
              refine J.run 3 K21_19 [(42, .bool (decide (num ≤ 1048576))), (4, .int .i64 (highF ln sg)), (3, .int .i64 (lowF ln sg)), (1, .pointer (some ⟨b1, 0, none⟩))] w3 (by kernel_rfl) ?_
              by_cases fk7 : num ≤ 1048576
              · skip
                refine J.head (.bool true) (congrArg Value.bool (decide_eq_true fk7)) ?_
                refine J.run 1 K21_20 [(43, .pointer (some ⟨b1, 7, none⟩)), (42, .bool true), (4, .int .i64 (highF ln sg)), (3, .int .i64 (lowF ln sg)), (1, .pointer (some ⟨b1, 0, none⟩))] w3 (by kernel_rfl) ?_
                refine J.ok (OK.ldBox S3 0 44 3 7 (.int .i64 den) (by kernel_rfl) rfl (by kernel_rfl)) ?_
                refine J.run 3 K21_21 [(47, .bool (decide (den ≥ 1))), (4, .int .i64 (highF ln sg)), (3, .int .i64 (lowF ln sg)), (1, .pointer (some ⟨b1, 0, none⟩))] w3 (by kernel_rfl) ?_
                by_cases fk8 : den ≥ 1
                · skip
                  refine J.head (.bool true) (congrArg Value.bool (decide_eq_true fk8)) ?_
                  refine J.run 1 K21_22 [(48, .pointer (some ⟨b1, 7, none⟩)), (47, .bool true), (4, .int .i64 (highF ln sg)), (3, .int .i64 (lowF ln sg)), (1, .pointer (some ⟨b1, 0, none⟩))] w3 (by kernel_rfl) ?_
                  refine J.ok (OK.ldBox S3 0 49 3 7 (.int .i64 den) (by kernel_rfl) rfl (by kernel_rfl)) ?_
                  refine J.run 3 K21_23 [(52, .bool (decide (den ≤ 1048576))), (4, .int .i64 (highF ln sg)), (3, .int .i64 (lowF ln sg)), (1, .pointer (some ⟨b1, 0, none⟩))] w3 (by kernel_rfl) ?_
                  by_cases fk9 : den ≤ 1048576
                  · skip
                    refine J.head (.bool true) (congrArg Value.bool (decide_eq_true fk9)) ?_
                    refine J.run 1 K21_24 [(53, .pointer (some ⟨b1, 6, none⟩)), (52, .bool true), (4, .int .i64 (highF ln sg)), (3, .int .i64 (lowF ln sg)), (1, .pointer (some ⟨b1, 0, none⟩))] w3 (by kernel_rfl) ?_
                    refine J.ok (OK.ldBox S3 0 54 3 6 (.int .i64 off) (by kernel_rfl) rfl (by kernel_rfl)) ?_
                    refine J.run 3 K21_25 [(57, .bool (decide (off ≥ (-1073741824)))), (4, .int .i64 (highF ln sg)), (3, .int .i64 (lowF ln sg)), (1, .pointer (some ⟨b1, 0, none⟩))] w3 (by kernel_rfl) ?_
                    by_cases fk10 : off ≥ (-1073741824)
                    · skip
                      refine J.head (.bool true) (congrArg Value.bool (decide_eq_true fk10)) ?_
                      refine J.run 1 K21_26 [(58, .pointer (some ⟨b1, 6, none⟩)), (57, .bool true), (4, .int .i64 (highF ln sg)), (3, .int .i64 (lowF ln sg)), (1, .pointer (some ⟨b1, 0, none⟩))] w3 (by kernel_rfl) ?_
                      refine J.ok (OK.ldBox S3 0 59 3 6 (.int .i64 off) (by kernel_rfl) rfl (by kernel_rfl)) ?_
                      refine J.run 3 K21_27 [(62, .bool (decide (off ≤ 1073741824))), (4, .int .i64 (highF ln sg)), (3, .int .i64 (lowF ln sg)), (1, .pointer (some ⟨b1, 0, none⟩))] w3 (by kernel_rfl) ?_
                      by_cases fk11 : off ≤ 1073741824
                      · skip
                        refine J.head (.bool true) (congrArg Value.bool (decide_eq_true fk11)) ?_
                        refine J.run 1 K21_28 [(63, .pointer (some ⟨b1, 8, none⟩)), (62, .bool true), (4, .int .i64 (highF ln sg)), (3, .int .i64 (lowF ln sg)), (1, .pointer (some ⟨b1, 0, none⟩))] w3 (by kernel_rfl) ?_
                        refine J.ok (OK.ldBox S3 0 64 3 8 (.int .i64 low) (by kernel_rfl) rfl (by kernel_rfl)) ?_
                        refine J.run 1 K21_29 [(65, .pointer (some ⟨b1, 9, none⟩)), (64, .int .i64 low), (62, .bool true), (4, .int .i64 (highF ln sg)), (3, .int .i64 (lowF ln sg)), (1, .pointer (some ⟨b1, 0, none⟩))] w3 (by kernel_rfl) ?_
                        refine J.ok (OK.ldBox S3 0 66 3 9 (.int .i64 high) (by kernel_rfl) rfl (by kernel_rfl)) ?_
                        refine J.run 3 K21_30 [(69, .bool (decide (low ≤ high))), (4, .int .i64 (highF ln sg)), (3, .int .i64 (lowF ln sg)), (1, .pointer (some ⟨b1, 0, none⟩))] w3 (by kernel_rfl) ?_
                        by_cases fk12 : low ≤ high
                        · skip
                          refine J.head (.bool true) (congrArg Value.bool (decide_eq_true fk12)) ?_
                          refine J.run 1 K21_31 [(70, .pointer (some ⟨b1, 8, none⟩)), (69, .bool true), (4, .int .i64 (highF ln sg)), (3, .int .i64 (lowF ln sg)), (1, .pointer (some ⟨b1, 0, none⟩))] w3 (by kernel_rfl) ?_
                          refine J.ok (OK.ldBox S3 0 71 3 8 (.int .i64 low) (by kernel_rfl) rfl (by kernel_rfl)) ?_
                          refine J.run 4 K21_32 [(75, .bool (decide (low ≥ (lowF ln sg)))), (4, .int .i64 (highF ln sg)), (1, .pointer (some ⟨b1, 0, none⟩))] w3 (by kernel_rfl) ?_
                          by_cases fk13 : low ≥ (lowF ln sg)
                          · skip
                            refine J.head (.bool true) (congrArg Value.bool (decide_eq_true fk13)) ?_
                            refine J.run 1 K21_33 [(76, .pointer (some ⟨b1, 9, none⟩)), (75, .bool true), (4, .int .i64 (highF ln sg))] w3 (by kernel_rfl) ?_
                            refine J.ok (OK.ldBox S3 0 77 3 9 (.int .i64 high) (by kernel_rfl) rfl (by kernel_rfl)) ?_
                            refine J.run 5 K21_34 [(2, .bool (decide (high ≤ (highF ln sg))))] w3 (by kernel_rfl) ?_
                            refine J.ret Try.f21 [.bool (decide (high ≤ (highF ln sg)))] Try.func21 ⟨by kernel_rfl, trivial⟩ ?_
                            refine hR _ _ ?_
                            exact ⟨congrArg Value.bool (by first | (simp [sigB, fk1, fk2, fk3, fk4, fk5, fk6, fk7, fk8, fk9, fk10, fk11, fk12, fk13]; done) | (simp [sigB, fk1, fk2, fk3, fk4, fk5, fk6, fk7, fk8, fk9, fk10, fk11, fk12, fk13]; omega) | (simp [sigB, inB, fk1, fk2, fk3, fk4, fk5, fk6, fk7, fk8, fk9, fk10, fk11, fk12, fk13]; done) | (simp [sigB, inB, fk1, fk2, fk3, fk4, fk5, fk6, fk7, fk8, fk9, fk10, fk11, fk12, fk13]; omega) | (simp [sigB, inB, fk1, fk2, fk3, fk4, fk5, fk6, fk7, fk8, fk9, fk10, fk11, fk12, fk13]; intros; omega)), S3.nil⟩
                          · skip
                            refine J.head (.bool false) (congrArg Value.bool (decide_eq_false fk13)) ?_
                            refine J.run 7 K21_35 [(2, .bool false)] w3 (by kernel_rfl) ?_
                            refine J.ret Try.f21 [.bool false] Try.func21 ⟨by kernel_rfl, trivial⟩ ?_
                            refine hR _ _ ?_
                            exact ⟨congrArg Value.bool (by first | (simp [sigB, fk1, fk2, fk3, fk4, fk5, fk6, fk7, fk8, fk9, fk10, fk11, fk12, fk13]; done) | (simp [sigB, fk1, fk2, fk3, fk4, fk5, fk6, fk7, fk8, fk9, fk10, fk11, fk12, fk13]; omega) | (simp [sigB, inB, fk1, fk2, fk3, fk4, fk5, fk6, fk7, fk8, fk9, fk10, fk11, fk12, fk13]; done) | (simp [sigB, inB, fk1, fk2, fk3, fk4, fk5, fk6, fk7, fk8, fk9, fk10, fk11, fk12, fk13]; omega) | (simp [sigB, inB, fk1, fk2, fk3, fk4, fk5, fk6, fk7, fk8, fk9, fk10, fk11, fk12, fk13]; intros; omega)), S3.nil⟩
                        · skip
                          refine J.head (.bool false) (congrArg Value.bool (decide_eq_false fk12)) ?_
                          refine J.run 13 K21_36 [(2, .bool false)] w3 (by kernel_rfl) ?_
                          refine J.ret Try.f21 [.bool false] Try.func21 ⟨by kernel_rfl, trivial⟩ ?_
                          refine hR _ _ ?_
                          exact ⟨congrArg Value.bool (by first | (simp [sigB, fk1, fk2, fk3, fk4, fk5, fk6, fk7, fk8, fk9, fk10, fk11, fk12]; done) | (simp [sigB, fk1, fk2, fk3, fk4, fk5, fk6, fk7, fk8, fk9, fk10, fk11, fk12]; omega) | (simp [sigB, inB, fk1, fk2, fk3, fk4, fk5, fk6, fk7, fk8, fk9, fk10, fk11, fk12]; done) | (simp [sigB, inB, fk1, fk2, fk3, fk4, fk5, fk6, fk7, fk8, fk9, fk10, fk11, fk12]; omega) | (simp [sigB, inB, fk1, fk2, fk3, fk4, fk5, fk6, fk7, fk8, fk9, fk10, fk11, fk12]; intros; omega)), S3.nil⟩
                      · skip
                        refine J.head (.bool false) (congrArg Value.bool (decide_eq_false fk11)) ?_
                        refine J.run 20 K21_37 [(2, .bool false)] w3 (by kernel_rfl) ?_
                        refine J.ret Try.f21 [.bool false] Try.func21 ⟨by kernel_rfl, trivial⟩ ?_
                        refine hR _ _ ?_
                        exact ⟨congrArg Value.bool (by first | (simp [sigB, fk1, fk2, fk3, fk4, fk5, fk6, fk7, fk8, fk9, fk10, fk11]; done) | (simp [sigB, fk1, fk2, fk3, fk4, fk5, fk6, fk7, fk8, fk9, fk10, fk11]; omega) | (simp [sigB, inB, fk1, fk2, fk3, fk4, fk5, fk6, fk7, fk8, fk9, fk10, fk11]; done) | (simp [sigB, inB, fk1, fk2, fk3, fk4, fk5, fk6, fk7, fk8, fk9, fk10, fk11]; omega) | (simp [sigB, inB, fk1, fk2, fk3, fk4, fk5, fk6, fk7, fk8, fk9, fk10, fk11]; intros; omega)), S3.nil⟩
                    · skip
                      refine J.head (.bool false) (congrArg Value.bool (decide_eq_false fk10)) ?_
                      refine J.run 25 K21_38 [(2, .bool false)] w3 (by kernel_rfl) ?_
                      refine J.ret Try.f21 [.bool false] Try.func21 ⟨by kernel_rfl, trivial⟩ ?_
                      refine hR _ _ ?_
                      exact ⟨congrArg Value.bool (by first | (simp [sigB, fk1, fk2, fk3, fk4, fk5, fk6, fk7, fk8, fk9, fk10]; done) | (simp [sigB, fk1, fk2, fk3, fk4, fk5, fk6, fk7, fk8, fk9, fk10]; omega) | (simp [sigB, inB, fk1, fk2, fk3, fk4, fk5, fk6, fk7, fk8, fk9, fk10]; done) | (simp [sigB, inB, fk1, fk2, fk3, fk4, fk5, fk6, fk7, fk8, fk9, fk10]; omega) | (simp [sigB, inB, fk1, fk2, fk3, fk4, fk5, fk6, fk7, fk8, fk9, fk10]; intros; omega)), S3.nil⟩
                  · skip
                    refine J.head (.bool false) (congrArg Value.bool (decide_eq_false fk9)) ?_
                    refine J.run 30 K21_39 [(2, .bool false)] w3 (by kernel_rfl) ?_
                    refine J.ret Try.f21 [.bool false] Try.func21 ⟨by kernel_rfl, trivial⟩ ?_
                    refine hR _ _ ?_
                    exact ⟨congrArg Value.bool (by first | (simp [sigB, fk1, fk2, fk3, fk4, fk5, fk6, fk7, fk8, fk9]; done) | (simp [sigB, fk1, fk2, fk3, fk4, fk5, fk6, fk7, fk8, fk9]; omega) | (simp [sigB, inB, fk1, fk2, fk3, fk4, fk5, fk6, fk7, fk8, fk9]; done) | (simp [sigB, inB, fk1, fk2, fk3, fk4, fk5, fk6, fk7, fk8, fk9]; omega) | (simp [sigB, inB, fk1, fk2, fk3, fk4, fk5, fk6, fk7, fk8, fk9]; intros; omega)), S3.nil⟩
                · skip
                  refine J.head (.bool false) (congrArg Value.bool (decide_eq_false fk8)) ?_
                  refine J.run 35 K21_40 [(2, .bool false)] w3 (by kernel_rfl) ?_
                  refine J.ret Try.f21 [.bool false] Try.func21 ⟨by kernel_rfl, trivial⟩ ?_
                  refine hR _ _ ?_
                  exact ⟨congrArg Value.bool (by first | (simp [sigB, fk1, fk2, fk3, fk4, fk5, fk6, fk7, fk8]; done) | (simp [sigB, fk1, fk2, fk3, fk4, fk5, fk6, fk7, fk8]; omega) | (simp [sigB, inB, fk1, fk2, fk3, fk4, fk5, fk6, fk7, fk8]; done) | (simp [sigB, inB, fk1, fk2, fk3, fk4, fk5, fk6, fk7, fk8]; omega) | (simp [sigB, inB, fk1, fk2, fk3, fk4, fk5, fk6, fk7, fk8]; intros; omega)), S3.nil⟩
              · skip
                refine J.head (.bool false) (congrArg Value.bool (decide_eq_false fk7)) ?_
                refine J.run 40 K21_41 [(2, .bool false)] w3 (by kernel_rfl) ?_
                refine J.ret Try.f21 [.bool false] Try.func21 ⟨by kernel_rfl, trivial⟩ ?_
                refine hR _ _ ?_
                exact ⟨congrArg Value.bool (by first | (simp [sigB, fk1, fk2, fk3, fk4, fk5, fk6, fk7]; done) | (simp [sigB, fk1, fk2, fk3, fk4, fk5, fk6, fk7]; omega) | (simp [sigB, inB, fk1, fk2, fk3, fk4, fk5, fk6, fk7]; done) | (simp [sigB, inB, fk1, fk2, fk3, fk4, fk5, fk6, fk7]; omega) | (simp [sigB, inB, fk1, fk2, fk3, fk4, fk5, fk6, fk7]; intros; omega)), S3.nil⟩
            · skip
              refine J.head (.bool false) (congrArg Value.bool (decide_eq_false fk6)) ?_
              refine J.run 45 K21_42 [(2, .bool false)] w3 (by kernel_rfl) ?_
              refine J.ret Try.f21 [.bool false] Try.func21 ⟨by kernel_rfl, trivial⟩ ?_
              refine hR _ _ ?_
              exact ⟨congrArg Value.bool (by first | (simp [sigB, fk1, fk2, fk3, fk4, fk5, fk6]; done) | (simp [sigB, fk1, fk2, fk3, fk4, fk5, fk6]; omega) | (simp [sigB, inB, fk1, fk2, fk3, fk4, fk5, fk6]; done) | (simp [sigB, inB, fk1, fk2, fk3, fk4, fk5, fk6]; omega) | (simp [sigB, inB, fk1, fk2, fk3, fk4, fk5, fk6]; intros; omega)), S3.nil⟩
  · skip
    refine J.head (.bool true) (congrArg Value.bool (by rw [fk1]; rfl)) ?_
    refine J.run 25 K21_43 [(2, .bool false)] w2 (by kernel_rfl) ?_
    refine J.ret Try.f21 [.bool false] Try.func21 ⟨by kernel_rfl, trivial⟩ ?_
    refine hR _ _ ?_
    exact ⟨congrArg Value.bool (by first | (simp [sigB, fk1]; done) | (simp [sigB, fk1]; omega) | (simp [sigB, inB, fk1]; done) | (simp [sigB, inB, fk1]; omega) | (simp [sigB, inB, fk1]; intros; omega)), S2.nil⟩

def limV (nm : ByteArray) (st ln : Int) (mo sg : Bool) (num off den low high : Int) : Value := if sigB nm st ln mo sg num off den low high then .tuple #[.int .i64 (lowF ln sg), .int .i64 (highF ln sg)] else .tuple #[.int .i64 0, .int .i64 0]
theorem hb8 : HasBody Try.prog 8 := fun _ _ => by kernel_rfl
noncomputable def K8_0 : List Item := adv 2 [] (bodyOf Try.f8)
noncomputable def K8_1 : List Item := adv 6 [] (popK K8_0)
noncomputable def K8_2 : List Item := adv 2 [] (popK (popK K8_1))
noncomputable def K8_3 : List Item := adv 4 [false] K8_2
noncomputable def K8_4 : List Item := adv 5 [] (popK (popK K8_3))
noncomputable def K8_5 : List Item := adv 6 [true] K8_2
set_option maxRecDepth 20000 in
set_option maxHeartbeats 20000000 in
theorem limits_any (nm : ByteArray) (st ln : Int) (mo sg : Bool) (num off den low high : Int) (w : World) (hnm : nm.size ≤ 9223372036854775807) : Ret Try.prog 8 #[.agg #[.string nm, .int .i64 st, .int .i64 ln, .bool mo, .bool sg, .int .i64 num, .int .i64 off, .int .i64 den, .int .i64 low, .int .i64 high]] w (fun v w' => v = limV nm st ln mo sg num off den low high ∧ Sep w [] w') := by
  have S0 := Sep.refl w
  refine Ret.named fun R hR => ?_
  refine Ret.of_J (N := 11) [(0, .agg #[.string nm, .int .i64 st, .int .i64 ln, .bool mo, .bool sg, .int .i64 num, .int .i64 off, .int .i64 den, .int .i64 low, .int .i64 high])] Try.func8 rfl rfl (Nat.le_of_ble_eq_true (by kernel_rfl)) (by kernel_rfl) ?_
  refine J.run 2 K8_0 [(0, .agg #[.string nm, .int .i64 st, .int .i64 ln, .bool mo, .bool sg, .int .i64 num, .int .i64 off, .int .i64 den, .int .i64 low, .int .i64 high])] w (by kernel_rfl) ?_
  refine J.new S0 1 [.string nm, .int .i64 st, .int .i64 ln, .bool mo, .bool sg, .int .i64 num, .int .i64 off, .int .i64 den, .int .i64 low, .int .i64 high] 23 (by kernel_rfl) ?_
  intro b1 w1 S1
  refine J.run 6 K8_1 [(1, .pointer (some ⟨b1, 0, none⟩))] w1 (by kernel_rfl) ?_
  refine J.ok (OK.ldBox S1 0 4 23 0 (.agg #[.string nm, .int .i64 st, .int .i64 ln, .bool mo, .bool sg, .int .i64 num, .int .i64 off, .int .i64 den, .int .i64 low, .int .i64 high]) (by kernel_rfl) rfl (by kernel_rfl)) ?_
  refine J.callF 5 19 #[.agg #[.string nm, .int .i64 st, .int .i64 ln, .bool mo, .bool sg, .int .i64 num, .int .i64 off, .int .i64 den, .int .i64 low, .int .i64 high]] hb19 (by kernel_rfl) (valid_any nm st ln mo sg num off den low high _ (by omega)) ?_
  rintro _ w2 ⟨rfl, T1⟩
  have S2 : Sep w [box b1 [.string nm, .int .i64 st, .int .i64 ln, .bool mo, .bool sg, .int .i64 num, .int .i64 off, .int .i64 den, .int .i64 low, .int .i64 high] 23] w2 := S1.trans T1
  clear T1 S1
  refine J.run 2 K8_2 [(6, .bool (!(sigB nm st ln mo sg num off den low high))), (1, .pointer (some ⟨b1, 0, none⟩))] w2 (by kernel_rfl) ?_
  rcases Bool.eq_false_or_eq_true (sigB nm st ln mo sg num off den low high) with fk1 | fk1
  · skip
    refine J.head (.bool false) (congrArg Value.bool (by rw [fk1]; rfl)) ?_
    obtain ⟨hs1, hs2, hs3, hs4, hs5⟩ := sigB_facts fk1
    refine J.run 4 K8_3 [(1, .pointer (some ⟨b1, 0, none⟩))] w2 (by kernel_rfl) ?_
    refine J.ok (OK.ldBox S2 0 7 23 0 (.agg #[.string nm, .int .i64 st, .int .i64 ln, .bool mo, .bool sg, .int .i64 num, .int .i64 off, .int .i64 den, .int .i64 low, .int .i64 high]) (by kernel_rfl) rfl (by kernel_rfl)) ?_
    have := lim_bounds (ln := ln) sg (by omega)
    refine J.callF 8 20 #[.agg #[.string nm, .int .i64 st, .int .i64 ln, .bool mo, .bool sg, .int .i64 num, .int .i64 off, .int .i64 den, .int .i64 low, .int .i64 high]] hb20 (by kernel_rfl) (lims_any nm st ln mo sg num off den low high _ (by omega)) ?_
    rintro _ w3 ⟨rfl, T2⟩
    have S3 : Sep w [box b1 [.string nm, .int .i64 st, .int .i64 ln, .bool mo, .bool sg, .int .i64 num, .int .i64 off, .int .i64 den, .int .i64 low, .int .i64 high] 23] w3 := S2.trans T2
    clear T2 S2
    refine J.run 5 K8_4 [(3, .int .i64 (highF ln sg)), (2, .int .i64 (lowF ln sg))] w3 (by kernel_rfl) ?_
    refine J.ret Try.f8 [.int .i64 (lowF ln sg), .int .i64 (highF ln sg)] Try.func8 ⟨by kernel_rfl, by kernel_rfl, trivial⟩ ?_
    refine hR _ _ ?_
    exact ⟨by simp [limV, tup_one, tup_two, tup_three, fk1], S3.nil⟩
  · skip
    refine J.head (.bool true) (congrArg Value.bool (by rw [fk1]; rfl)) ?_
    refine J.run 6 K8_5 [(3, .int .i64 0), (2, .int .i64 0)] w2 (by kernel_rfl) ?_
    refine J.ret Try.f8 [.int .i64 0, .int .i64 0] Try.func8 ⟨by kernel_rfl, by kernel_rfl, trivial⟩ ?_
    refine hR _ _ ?_
    exact ⟨by simp [limV, tup_one, tup_two, tup_three, fk1], S2.nil⟩

theorem hb9 : HasBody Try.prog 9 := fun _ _ => by kernel_rfl
noncomputable def K9_0 : List Item := adv 2 [] (bodyOf Try.f9)
noncomputable def K9_1 : List Item := adv 6 [] (popK K9_0)
noncomputable def K9_2 : List Item := adv 2 [] (popK (popK K9_1))
noncomputable def K9_3 : List Item := adv 4 [false] K9_2
noncomputable def K9_4 : List Item := adv 5 [] (popK (popK K9_3))
noncomputable def K9_5 : List Item := adv 6 [true] K9_2
set_option maxRecDepth 20000 in
set_option maxHeartbeats 20000000 in
theorem rlimits_any (nm : ByteArray) (st ln : Int) (mo sg : Bool) (num off den low high : Int) (w : World) (hnm : nm.size ≤ 9223372036854775807) : Ret Try.prog 9 #[.agg #[.string nm, .int .i64 st, .int .i64 ln, .bool mo, .bool sg, .int .i64 num, .int .i64 off, .int .i64 den, .int .i64 low, .int .i64 high]] w (fun v w' => v = limV nm st ln mo sg num off den low high ∧ Sep w [] w') := by
  have S0 := Sep.refl w
  refine Ret.named fun R hR => ?_
  refine Ret.of_J (N := 11) [(0, .agg #[.string nm, .int .i64 st, .int .i64 ln, .bool mo, .bool sg, .int .i64 num, .int .i64 off, .int .i64 den, .int .i64 low, .int .i64 high])] Try.func9 rfl rfl (Nat.le_of_ble_eq_true (by kernel_rfl)) (by kernel_rfl) ?_
  refine J.run 2 K9_0 [(0, .agg #[.string nm, .int .i64 st, .int .i64 ln, .bool mo, .bool sg, .int .i64 num, .int .i64 off, .int .i64 den, .int .i64 low, .int .i64 high])] w (by kernel_rfl) ?_
  refine J.new S0 1 [.string nm, .int .i64 st, .int .i64 ln, .bool mo, .bool sg, .int .i64 num, .int .i64 off, .int .i64 den, .int .i64 low, .int .i64 high] 23 (by kernel_rfl) ?_
  intro b1 w1 S1
  refine J.run 6 K9_1 [(1, .pointer (some ⟨b1, 0, none⟩))] w1 (by kernel_rfl) ?_
  refine J.ok (OK.ldBox S1 0 4 23 0 (.agg #[.string nm, .int .i64 st, .int .i64 ln, .bool mo, .bool sg, .int .i64 num, .int .i64 off, .int .i64 den, .int .i64 low, .int .i64 high]) (by kernel_rfl) rfl (by kernel_rfl)) ?_
  refine J.callF 5 21 #[.agg #[.string nm, .int .i64 st, .int .i64 ln, .bool mo, .bool sg, .int .i64 num, .int .i64 off, .int .i64 den, .int .i64 low, .int .i64 high]] hb21 (by kernel_rfl) (rsignal_any nm st ln mo sg num off den low high _ (by omega)) ?_
  rintro _ w2 ⟨rfl, T1⟩
  have S2 : Sep w [box b1 [.string nm, .int .i64 st, .int .i64 ln, .bool mo, .bool sg, .int .i64 num, .int .i64 off, .int .i64 den, .int .i64 low, .int .i64 high] 23] w2 := S1.trans T1
  clear T1 S1
  refine J.run 2 K9_2 [(6, .bool (!(sigB nm st ln mo sg num off den low high))), (1, .pointer (some ⟨b1, 0, none⟩))] w2 (by kernel_rfl) ?_
  rcases Bool.eq_false_or_eq_true (sigB nm st ln mo sg num off den low high) with fk1 | fk1
  · skip
    refine J.head (.bool false) (congrArg Value.bool (by rw [fk1]; rfl)) ?_
    obtain ⟨hs1, hs2, hs3, hs4, hs5⟩ := sigB_facts fk1
    refine J.run 4 K9_3 [(1, .pointer (some ⟨b1, 0, none⟩))] w2 (by kernel_rfl) ?_
    refine J.ok (OK.ldBox S2 0 7 23 0 (.agg #[.string nm, .int .i64 st, .int .i64 ln, .bool mo, .bool sg, .int .i64 num, .int .i64 off, .int .i64 den, .int .i64 low, .int .i64 high]) (by kernel_rfl) rfl (by kernel_rfl)) ?_
    have := lim_bounds (ln := ln) sg (by omega)
    refine J.callF 8 22 #[.agg #[.string nm, .int .i64 st, .int .i64 ln, .bool mo, .bool sg, .int .i64 num, .int .i64 off, .int .i64 den, .int .i64 low, .int .i64 high]] hb22 (by kernel_rfl) (rlims_any nm st ln mo sg num off den low high _ (by omega)) ?_
    rintro _ w3 ⟨rfl, T2⟩
    have S3 : Sep w [box b1 [.string nm, .int .i64 st, .int .i64 ln, .bool mo, .bool sg, .int .i64 num, .int .i64 off, .int .i64 den, .int .i64 low, .int .i64 high] 23] w3 := S2.trans T2
    clear T2 S2
    refine J.run 5 K9_4 [(3, .int .i64 (highF ln sg)), (2, .int .i64 (lowF ln sg))] w3 (by kernel_rfl) ?_
    refine J.ret Try.f9 [.int .i64 (lowF ln sg), .int .i64 (highF ln sg)] Try.func9 ⟨by kernel_rfl, by kernel_rfl, trivial⟩ ?_
    refine hR _ _ ?_
    exact ⟨by simp [limV, tup_one, tup_two, tup_three, fk1], S3.nil⟩
  · skip
    refine J.head (.bool true) (congrArg Value.bool (by rw [fk1]; rfl)) ?_
    refine J.run 6 K9_5 [(3, .int .i64 0), (2, .int .i64 0)] w2 (by kernel_rfl) ?_
    refine J.ret Try.f9 [.int .i64 0, .int .i64 0] Try.func9 ⟨by kernel_rfl, by kernel_rfl, trivial⟩ ?_
    refine hR _ _ ?_
    exact ⟨by simp [limV, tup_one, tup_two, tup_three, fk1], S2.nil⟩

theorem hb23 : HasBody Try.prog 23 := fun _ _ => by kernel_rfl
noncomputable def K23_0 : List Item := adv 5 [] (bodyOf Try.f23)
noncomputable def K23_1 : List Item := adv 5 [] K23_0
noncomputable def K23_2 : List Item := adv 7 [] K23_1
noncomputable def K23_3 : List Item := adv 4 [true] K23_2
noncomputable def K23_4 : List Item := adv 4 [] (rRest K23_3)
noncomputable def K23_5 : List Item := adv 2 [] K23_4
noncomputable def K23_6 : List Item := adv 2 [false] K23_2
set_option maxRecDepth 20000 in
set_option maxHeartbeats 20000000 in
theorem reverse_any (a : Option Addr) (c : Nat) (l : List Int) (w0 : World) (L0 : List Eng.Claim) (w : World) (S0 : Sep w0 (rowOf encI a c 3 1 l :: L0) w) (hl : l.length ≤ 1000000) : Ret Try.prog 23 #[.slice a l.length c] w (fun v w' => v = .tuple #[] ∧ Sep w0 (rowOf encI a c 3 1 l.reverse :: L0) w') := by
  refine Ret.named fun R hR => ?_
  refine Ret.of_J (N := 28) [(0, .slice a l.length c)] Try.func23 rfl rfl (Nat.le_of_ble_eq_true (by kernel_rfl)) (by kernel_rfl) ?_
  refine J.run 5 K23_0 [(6, .int .i64 (IntKind.wrap .i64 ((l.length : Int) - 1))), (0, .slice a l.length c)] w (by kernel_rfl) ?_
  refine J.head (.int .i64 ((l.length : Int) - 1)) (congrArg (Value.int .i64) (IntWalk.i64_in _ (by omega))) ?_
  refine J.run 5 K23_1 [(3, .int .i64 ((l.length : Int) - 1)), (2, .int .i64 0), (0, .slice a l.length c)] w (by kernel_rfl) ?_
  have L23_1 : ∀ (mm_ : Nat) (ls : List Int) (i : Int) (j : Int) (w1 : World), (0 ≤ i) → (i + j + 1 = (l.length : Int)) → (ls = revPart l (i).toNat) → ((ls).length = l.length) → Sep w0 (rowOf encI a c 3 1 ls :: L0) w1 → (j - i + 1).toNat = mm_ → J Try.prog 23 28 R K23_1 [(3, .int .i64 j), (2, .int .i64 i), (0, .slice a l.length c)] w1 := by
    intro mm1
    induction mm1 using Nat.strongRecOn with
    | _ mm1 ih1 =>
    intro ls i j w1 h0 hij hls hln S1 hm1
    refine J.run 7 K23_2 [(9, .bool (decide (i < j))), (3, .int .i64 j), (2, .int .i64 i), (0, .slice a l.length c)] w1 (by kernel_rfl) ?_
    by_cases fk1 : i < j
    · skip
      refine J.head (.bool true) (congrArg Value.bool (decide_eq_true fk1)) ?_
      refine J.run 4 K23_3 [(3, .int .i64 j), (2, .int .i64 i), (0, .slice a l.length c)] w1 (by kernel_rfl) ?_
      obtain ⟨p1, hp1⟩ := row1_addr (S1.nth 0 rfl) (show 0 < (ls).length by first | omega | (simp; omega))
      obtain ⟨p2, hp2⟩ := row1_addr (S1.nth 0 rfl) (show 0 < (ls).length by first | omega | (simp; omega))
      have W1 : ∀ (w2 : World), Sep w0 (rowOf encI a c 3 1 ((ls.set (i).toNat (ls.getD (j).toNat 0)).set (j).toNat (ls.getD (i).toNat 0)) :: L0) w2 → WA Try.prog 23 28 R K23_3 0 #[true, true, true, true, true, true, true, true, true, true, true, true, true, true, true, true] [(0, .slice a l.length c), (2, .int .i64 i), (3, .int .i64 j), (14, .slice a l.length c), (15, .int .i64 i), (16, .slice a l.length c), (17, .int .i64 j), (18, .slice a l.length c), (19, .int .i64 j), (20, .pointer (some (p1.add (j).toNat))), (21, .int .i64 (ls.getD (j).toNat 0)), (22, .slice a l.length c), (23, .int .i64 i), (24, .pointer (some (p2.add (i).toNat))), (25, .int .i64 (ls.getD (i).toNat 0)), (26, .pointer (some (p2.add (i).toNat))), (27, .pointer (some (p1.add (j).toNat)))] w2 := by
        intro w2 S2
        refine WA.done (by kernel_rfl) ?_
        refine J.run 0 (rRest K23_3) [(0, .slice a l.length c), (2, .int .i64 i), (3, .int .i64 j)] w2 (by kernel_rfl) ?_
        refine J.run 4 K23_4 [(11, .int .i64 (IntKind.wrap .i64 (i + 1))), (0, .slice a l.length c), (3, .int .i64 j)] w2 (by kernel_rfl) ?_
        refine J.head (.int .i64 (i + 1)) (congrArg (Value.int .i64) (IntWalk.i64_in _ (by omega))) ?_
        refine J.run 2 K23_5 [(13, .int .i64 (IntKind.wrap .i64 (j - 1))), (11, .int .i64 (i + 1)), (0, .slice a l.length c)] w2 (by kernel_rfl) ?_
        refine J.head (.int .i64 (j - 1)) (congrArg (Value.int .i64) (IntWalk.i64_in _ (by omega))) ?_
        refine J.run 4 K23_1 [(3, .int .i64 (j - 1)), (2, .int .i64 (i + 1)), (0, .slice a l.length c)] w2 (by kernel_rfl) ?_
        refine J.run 0 K23_1 [(3, .int .i64 (j - 1)), (2, .int .i64 (i + 1)), (0, .slice a l.length c)] w2 (by kernel_rfl) ?_
        exact ih1 _ (show ((j - 1) - (i + 1) + 1).toNat < mm1 from by omega) ((ls.set (i).toNat (ls.getD (j).toNat 0)).set (j).toNat (ls.getD (i).toNat 0)) (i + 1) (j - 1) w2 (by omega) (by omega) (revPart_next h0 (by assumption) hij hls) (by simp [hln]) S2 rfl
      have W2 : ∀ (w3 : World), Sep w0 (rowOf encI a c 3 1 (ls.set (i).toNat (ls.getD (j).toNat 0)) :: L0) w3 → WA Try.prog 23 28 R K23_3 1 #[true, true, true, true, true, true, true, true, true, true, true, true, true, true, true, false] [(0, .slice a l.length c), (2, .int .i64 i), (3, .int .i64 j), (14, .slice a l.length c), (15, .int .i64 i), (16, .slice a l.length c), (17, .int .i64 j), (18, .slice a l.length c), (19, .int .i64 j), (20, .pointer (some (p1.add (j).toNat))), (21, .int .i64 (ls.getD (j).toNat 0)), (22, .slice a l.length c), (23, .int .i64 i), (24, .pointer (some (p2.add (i).toNat))), (25, .int .i64 (ls.getD (i).toNat 0)), (26, .pointer (some (p2.add (i).toNat))), (27, .pointer (some (p1.add (j).toNat)))] w3 := by
        intro w3 S3
        refine WA.all [15] (by kernel_rfl) rfl ⟨?_, trivial⟩
        · skip
          refine WO.set #[true, true, true, true, true, true, true, true, true, true, true, true, true, true, true, true] (by kernel_rfl) ?_
          refine WO.stRow1 (Value.int .i64) (int_one _) S3 0 (ls.set (i).toNat (ls.getD (j).toNat 0)) 3 p1 (j).toNat (ls.getD (i).toNat 0) rfl (by kernel_rfl) hp1 (by first | omega | (simp; omega)) (by kernel_rfl) ?_
          intro w4 S4
          replace S4 : Sep w0 (rowOf encI a c 3 1 ((ls.set (i).toNat (ls.getD (j).toNat 0)).set (j).toNat (ls.getD (i).toNat 0)) :: L0) w4 := S4
          refine WA.weaken (env' := [(0, .slice a l.length c), (2, .int .i64 i), (3, .int .i64 j), (14, .slice a l.length c), (15, .int .i64 i), (16, .slice a l.length c), (17, .int .i64 j), (18, .slice a l.length c), (19, .int .i64 j), (20, .pointer (some (p1.add (j).toNat))), (21, .int .i64 (ls.getD (j).toNat 0)), (22, .slice a l.length c), (23, .int .i64 i), (24, .pointer (some (p2.add (i).toNat))), (25, .int .i64 (ls.getD (i).toNat 0)), (26, .pointer (some (p2.add (i).toNat))), (27, .pointer (some (p1.add (j).toNat)))]) (by kernel_rfl) ?_
          exact W1 w4 S4
      have W3 : ∀ (w5 : World), Sep w0 (rowOf encI a c 3 1 ls :: L0) w5 → WA Try.prog 23 28 R K23_3 3 #[true, true, true, true, true, true, true, true, true, true, true, true, true, false, false, false] [(0, .slice a l.length c), (2, .int .i64 i), (3, .int .i64 j), (14, .slice a l.length c), (15, .int .i64 i), (16, .slice a l.length c), (17, .int .i64 j), (18, .slice a l.length c), (19, .int .i64 j), (20, .pointer (some (p1.add (j).toNat))), (21, .int .i64 (ls.getD (j).toNat 0)), (22, .slice a l.length c), (23, .int .i64 i), (24, .pointer (some (p2.add (i).toNat))), (25, .int .i64 (ls.getD (i).toNat 0)), (26, .pointer (some (p2.add (i).toNat)))] w5 := by
        intro w5 S5
        refine WA.all [13] (by kernel_rfl) rfl ⟨?_, trivial⟩
        · skip
          refine WO.set #[true, true, true, true, true, true, true, true, true, true, true, true, true, true, false, false] (by kernel_rfl) ?_
          refine WO.stRow1 (Value.int .i64) (int_one _) S5 0 ls 3 p2 (i).toNat (ls.getD (j).toNat 0) rfl (by kernel_rfl) hp2 (by first | omega | (simp; omega)) (by kernel_rfl) ?_
          intro w6 S6
          replace S6 : Sep w0 (rowOf encI a c 3 1 (ls.set (i).toNat (ls.getD (j).toNat 0)) :: L0) w6 := S6
          refine WA.takeOK 14 #[true, true, true, true, true, true, true, true, true, true, true, true, true, true, true, false] (by kernel_rfl) (by kernel_rfl) (by kernel_rfl) (by kernel_rfl) (fun _ => OK.index 27 28 1 a p1 l.length (j).toNat j (p1.add (j).toNat) (by kernel_rfl) (by kernel_rfl) hp1 (by omega) (by first | omega | (simp; omega)) (by rw [Nat.mul_one])) rfl ?_
          refine WA.weaken (env' := [(0, .slice a l.length c), (2, .int .i64 i), (3, .int .i64 j), (14, .slice a l.length c), (15, .int .i64 i), (16, .slice a l.length c), (17, .int .i64 j), (18, .slice a l.length c), (19, .int .i64 j), (20, .pointer (some (p1.add (j).toNat))), (21, .int .i64 (ls.getD (j).toNat 0)), (22, .slice a l.length c), (23, .int .i64 i), (24, .pointer (some (p2.add (i).toNat))), (25, .int .i64 (ls.getD (i).toNat 0)), (26, .pointer (some (p2.add (i).toNat))), (27, .pointer (some (p1.add (j).toNat)))]) (by kernel_rfl) ?_
          exact W2 w6 S6
      have W4 : ∀ (w7 : World), Sep w0 (rowOf encI a c 3 1 ls :: L0) w7 → WA Try.prog 23 28 R K23_3 5 #[true, true, true, true, true, true, true, true, true, true, true, false, false, false, false, false] [(0, .slice a l.length c), (2, .int .i64 i), (3, .int .i64 j), (14, .slice a l.length c), (15, .int .i64 i), (16, .slice a l.length c), (17, .int .i64 j), (18, .slice a l.length c), (19, .int .i64 j), (20, .pointer (some (p1.add (j).toNat))), (21, .int .i64 (ls.getD (j).toNat 0)), (22, .slice a l.length c), (23, .int .i64 i), (24, .pointer (some (p2.add (i).toNat)))] w7 := by
        intro w7 S7
        refine WA.all [11] (by kernel_rfl) rfl ⟨?_, trivial⟩
        · skip
          refine WO.set #[true, true, true, true, true, true, true, true, true, true, true, true, false, false, false, false] (by kernel_rfl) ?_
          refine WO.ok (OK.ldCell 25 3 (p2.add (i).toNat) (.int .i64 (ls.getD (i).toNat 0)) (by kernel_rfl) (by kernel_rfl) (row1_cell (g := (Value.int .i64)) S7 0 rfl hp2 0 (i).toNat (by first | omega | (simp; omega)))) ?_
          refine WA.takeOK 12 #[true, true, true, true, true, true, true, true, true, true, true, true, true, false, false, false] (by kernel_rfl) (by kernel_rfl) (by kernel_rfl) (by kernel_rfl) (fun _ => OK.index 26 28 1 a p2 l.length (i).toNat i (p2.add (i).toNat) (by kernel_rfl) (by kernel_rfl) hp2 (by omega) (by first | omega | (simp; omega)) (by rw [Nat.mul_one])) rfl ?_
          refine WA.weaken (env' := [(0, .slice a l.length c), (2, .int .i64 i), (3, .int .i64 j), (14, .slice a l.length c), (15, .int .i64 i), (16, .slice a l.length c), (17, .int .i64 j), (18, .slice a l.length c), (19, .int .i64 j), (20, .pointer (some (p1.add (j).toNat))), (21, .int .i64 (ls.getD (j).toNat 0)), (22, .slice a l.length c), (23, .int .i64 i), (24, .pointer (some (p2.add (i).toNat))), (25, .int .i64 (ls.getD (i).toNat 0)), (26, .pointer (some (p2.add (i).toNat)))]) (by kernel_rfl) ?_
          exact W3 w7 S7
      have W5 : ∀ (w8 : World), Sep w0 (rowOf encI a c 3 1 ls :: L0) w8 → WA Try.prog 23 28 R K23_3 5 #[true, true, true, true, true, true, true, false, true, true, true, true, false, false, false, false] [(0, .slice a l.length c), (2, .int .i64 i), (3, .int .i64 j), (14, .slice a l.length c), (15, .int .i64 i), (16, .slice a l.length c), (17, .int .i64 j), (18, .slice a l.length c), (19, .int .i64 j), (20, .pointer (some (p1.add (j).toNat))), (22, .slice a l.length c), (23, .int .i64 i), (24, .pointer (some (p2.add (i).toNat))), (25, .int .i64 (ls.getD (i).toNat 0))] w8 := by
        intro w8 S8
        refine WA.all [7] (by kernel_rfl) rfl ⟨?_, trivial⟩
        · skip
          refine WO.set #[true, true, true, true, true, true, true, true, true, true, true, true, false, false, false, false] (by kernel_rfl) ?_
          refine WO.ok (OK.ldCell 21 3 (p1.add (j).toNat) (.int .i64 (ls.getD (j).toNat 0)) (by kernel_rfl) (by kernel_rfl) (row1_cell (g := (Value.int .i64)) S8 0 rfl hp1 0 (j).toNat (by first | omega | (simp; omega)))) ?_
          refine WA.takeOK 12 #[true, true, true, true, true, true, true, true, true, true, true, true, true, false, false, false] (by kernel_rfl) (by kernel_rfl) (by kernel_rfl) (by kernel_rfl) (fun _ => OK.index 26 28 1 a p2 l.length (i).toNat i (p2.add (i).toNat) (by kernel_rfl) (by kernel_rfl) hp2 (by omega) (by first | omega | (simp; omega)) (by rw [Nat.mul_one])) rfl ?_
          refine WA.weaken (env' := [(0, .slice a l.length c), (2, .int .i64 i), (3, .int .i64 j), (14, .slice a l.length c), (15, .int .i64 i), (16, .slice a l.length c), (17, .int .i64 j), (18, .slice a l.length c), (19, .int .i64 j), (20, .pointer (some (p1.add (j).toNat))), (21, .int .i64 (ls.getD (j).toNat 0)), (22, .slice a l.length c), (23, .int .i64 i), (24, .pointer (some (p2.add (i).toNat))), (25, .int .i64 (ls.getD (i).toNat 0)), (26, .pointer (some (p2.add (i).toNat)))]) (by kernel_rfl) ?_
          exact W3 w8 S8
      have W6 : ∀ (w9 : World), Sep w0 (rowOf encI a c 3 1 ls :: L0) w9 → WA Try.prog 23 28 R K23_3 6 #[true, true, true, true, true, true, true, false, true, true, true, false, false, false, false, false] [(0, .slice a l.length c), (2, .int .i64 i), (3, .int .i64 j), (14, .slice a l.length c), (15, .int .i64 i), (16, .slice a l.length c), (17, .int .i64 j), (18, .slice a l.length c), (19, .int .i64 j), (20, .pointer (some (p1.add (j).toNat))), (22, .slice a l.length c), (23, .int .i64 i), (24, .pointer (some (p2.add (i).toNat)))] w9 := by
        intro w9 S9
        refine WA.all [7, 11] (by kernel_rfl) rfl ⟨?_, ?_, trivial⟩
        · skip
          refine WO.set #[true, true, true, true, true, true, true, true, true, true, true, false, false, false, false, false] (by kernel_rfl) ?_
          refine WO.ok (OK.ldCell 21 3 (p1.add (j).toNat) (.int .i64 (ls.getD (j).toNat 0)) (by kernel_rfl) (by kernel_rfl) (row1_cell (g := (Value.int .i64)) S9 0 rfl hp1 0 (j).toNat (by first | omega | (simp; omega)))) ?_
          refine WA.weaken (env' := [(0, .slice a l.length c), (2, .int .i64 i), (3, .int .i64 j), (14, .slice a l.length c), (15, .int .i64 i), (16, .slice a l.length c), (17, .int .i64 j), (18, .slice a l.length c), (19, .int .i64 j), (20, .pointer (some (p1.add (j).toNat))), (21, .int .i64 (ls.getD (j).toNat 0)), (22, .slice a l.length c), (23, .int .i64 i), (24, .pointer (some (p2.add (i).toNat)))]) (by kernel_rfl) ?_
          exact W4 w9 S9
        · skip
          refine WO.set #[true, true, true, true, true, true, true, false, true, true, true, true, false, false, false, false] (by kernel_rfl) ?_
          refine WO.ok (OK.ldCell 25 3 (p2.add (i).toNat) (.int .i64 (ls.getD (i).toNat 0)) (by kernel_rfl) (by kernel_rfl) (row1_cell (g := (Value.int .i64)) S9 0 rfl hp2 0 (i).toNat (by first | omega | (simp; omega)))) ?_
          refine WA.weaken (env' := [(0, .slice a l.length c), (2, .int .i64 i), (3, .int .i64 j), (14, .slice a l.length c), (15, .int .i64 i), (16, .slice a l.length c), (17, .int .i64 j), (18, .slice a l.length c), (19, .int .i64 j), (20, .pointer (some (p1.add (j).toNat))), (22, .slice a l.length c), (23, .int .i64 i), (24, .pointer (some (p2.add (i).toNat))), (25, .int .i64 (ls.getD (i).toNat 0))]) (by kernel_rfl) ?_
          exact W5 w9 S9
      refine J.drawAny S1 16 #[false, false, false, false, false, false, false, false, false, false, false, false, false, false, false, false] Try.mixed (by kernel_rfl) (by kernel_rfl) (by kernel_rfl) ?_
      intro w10 S10
      refine WA.take 0 14 (.slice a l.length c) #[true, false, false, false, false, false, false, false, false, false, false, false, false, false, false, false] (by kernel_rfl) (by kernel_rfl) (by kernel_rfl) (fun _ => by kernel_rfl) (by kernel_rfl) ?_
      refine WA.take 1 15 (.int .i64 i) #[true, true, false, false, false, false, false, false, false, false, false, false, false, false, false, false] (by kernel_rfl) (by kernel_rfl) (by kernel_rfl) (fun _ => by kernel_rfl) (by kernel_rfl) ?_
      refine WA.take 2 16 (.slice a l.length c) #[true, true, true, false, false, false, false, false, false, false, false, false, false, false, false, false] (by kernel_rfl) (by kernel_rfl) (by kernel_rfl) (fun _ => by kernel_rfl) (by kernel_rfl) ?_
      refine WA.take 3 17 (.int .i64 j) #[true, true, true, true, false, false, false, false, false, false, false, false, false, false, false, false] (by kernel_rfl) (by kernel_rfl) (by kernel_rfl) (fun _ => by kernel_rfl) (by kernel_rfl) ?_
      refine WA.take 4 18 (.slice a l.length c) #[true, true, true, true, true, false, false, false, false, false, false, false, false, false, false, false] (by kernel_rfl) (by kernel_rfl) (by kernel_rfl) (fun _ => by kernel_rfl) (by kernel_rfl) ?_
      refine WA.take 5 19 (.int .i64 j) #[true, true, true, true, true, true, false, false, false, false, false, false, false, false, false, false] (by kernel_rfl) (by kernel_rfl) (by kernel_rfl) (fun _ => by kernel_rfl) (by kernel_rfl) ?_
      refine WA.takeOK 6 #[true, true, true, true, true, true, true, false, false, false, false, false, false, false, false, false] (by kernel_rfl) (by kernel_rfl) (by kernel_rfl) (by kernel_rfl) (fun _ => OK.index 20 28 1 a p1 l.length (j).toNat j (p1.add (j).toNat) (by kernel_rfl) (by kernel_rfl) hp1 (by omega) (by first | omega | (simp; omega)) (by rw [Nat.mul_one])) rfl ?_
      refine WA.take 8 22 (.slice a l.length c) #[true, true, true, true, true, true, true, false, true, false, false, false, false, false, false, false] (by kernel_rfl) (by kernel_rfl) (by kernel_rfl) (fun _ => by kernel_rfl) (by kernel_rfl) ?_
      refine WA.take 9 23 (.int .i64 i) #[true, true, true, true, true, true, true, false, true, true, false, false, false, false, false, false] (by kernel_rfl) (by kernel_rfl) (by kernel_rfl) (fun _ => by kernel_rfl) (by kernel_rfl) ?_
      refine WA.takeOK 10 #[true, true, true, true, true, true, true, false, true, true, true, false, false, false, false, false] (by kernel_rfl) (by kernel_rfl) (by kernel_rfl) (by kernel_rfl) (fun _ => OK.index 24 28 1 a p2 l.length (i).toNat i (p2.add (i).toNat) (by kernel_rfl) (by kernel_rfl) hp2 (by omega) (by first | omega | (simp; omega)) (by rw [Nat.mul_one])) rfl ?_
      refine WA.weaken (env' := [(0, .slice a l.length c), (2, .int .i64 i), (3, .int .i64 j), (14, .slice a l.length c), (15, .int .i64 i), (16, .slice a l.length c), (17, .int .i64 j), (18, .slice a l.length c), (19, .int .i64 j), (20, .pointer (some (p1.add (j).toNat))), (22, .slice a l.length c), (23, .int .i64 i), (24, .pointer (some (p2.add (i).toNat)))]) (by kernel_rfl) ?_
      exact W6 w10 S10
    · skip
      refine J.head (.bool false) (congrArg Value.bool (decide_eq_false fk1)) ?_
      refine J.run 2 K23_6 [] w1 (by kernel_rfl) ?_
      refine J.done Try.f23 [] Try.func23 trivial ?_
      refine hR _ _ ?_
      rw [hls, revPart_end fk1 (by omega) h0] at S1
      exact ⟨rfl, S1⟩
  exact L23_1 _ l 0 ((l.length : Int) - 1) w (by omega) (by omega) ((revPart_start l).symm) (rfl) S0 rfl

theorem hb11 : HasBody Try.prog 11 := fun _ _ => by kernel_rfl
noncomputable def K11_0 : List Item := adv 2 [] (bodyOf Try.f11)
noncomputable def K11_1 : List Item := adv 5 [] (popK K11_0)
noncomputable def K11_2 : List Item := adv 2 [] (popK (popK K11_1))
noncomputable def K11_3 : List Item := adv 9 [false] K11_2
noncomputable def K11_4 : List Item := adv 6 [] (popK K11_3)
noncomputable def K11_5 : List Item := adv 4 [] (popK K11_4)
noncomputable def K11_6 : List Item := adv 5 [] K11_5
noncomputable def K11_7 : List Item := adv 8 [true] K11_6
noncomputable def K11_8 : List Item := adv 6 [] (popK (popK K11_7))
noncomputable def K11_9 : List Item := adv 3 [] (popK K11_8)
noncomputable def K11_10 : List Item := adv 5 [false] K11_9
noncomputable def K11_11 : List Item := adv 3 [] K11_10
noncomputable def K11_12 : List Item := adv 4 [true] K11_11
noncomputable def K11_13 : List Item := adv 6 [] K11_12
noncomputable def K11_14 : List Item := adv 4 [false] K11_11
noncomputable def K11_15 : List Item := adv 6 [] K11_14
noncomputable def K11_16 : List Item := adv 4 [true] K11_9
noncomputable def K11_17 : List Item := adv 6 [] K11_16
noncomputable def K11_18 : List Item := adv 6 [false] K11_6
noncomputable def K11_19 : List Item := adv 1 [] (popK K11_18)
noncomputable def K11_20 : List Item := adv 3 [true] K11_19
noncomputable def K11_21 : List Item := adv 6 [] (popK K11_20)
noncomputable def K11_22 : List Item := adv 7 [false] K11_19
noncomputable def K11_23 : List Item := adv 5 [true] K11_2
set_option maxRecDepth 20000 in
set_option maxHeartbeats 20000000 in
theorem bits_any (nm : ByteArray) (st ln : Int) (mo sg : Bool) (num off den low high : Int) (w : World) (hnm : nm.size ≤ 9223372036854775807) : Ret Try.prog 11 #[.agg #[.string nm, .int .i64 st, .int .i64 ln, .bool mo, .bool sg, .int .i64 num, .int .i64 off, .int .i64 den, .int .i64 low, .int .i64 high]] w (fun v w' => ∃ a cap, v = .slice a (bitsF nm st ln mo sg num off den low high).length cap ∧ Sep w [rowOf encI a cap 3 1 (bitsF nm st ln mo sg num off den low high)] w') := by
  have S0 := Sep.refl w
  refine Ret.named fun R hR => ?_
  refine Ret.of_J (N := 38) [(0, .agg #[.string nm, .int .i64 st, .int .i64 ln, .bool mo, .bool sg, .int .i64 num, .int .i64 off, .int .i64 den, .int .i64 low, .int .i64 high])] Try.func11 rfl rfl (Nat.le_of_ble_eq_true (by kernel_rfl)) (by kernel_rfl) ?_
  refine J.run 2 K11_0 [(0, .agg #[.string nm, .int .i64 st, .int .i64 ln, .bool mo, .bool sg, .int .i64 num, .int .i64 off, .int .i64 den, .int .i64 low, .int .i64 high])] w (by kernel_rfl) ?_
  refine J.new S0 1 [.string nm, .int .i64 st, .int .i64 ln, .bool mo, .bool sg, .int .i64 num, .int .i64 off, .int .i64 den, .int .i64 low, .int .i64 high] 23 (by kernel_rfl) ?_
  intro b1 w1 S1
  refine J.run 5 K11_1 [(1, .pointer (some ⟨b1, 0, none⟩))] w1 (by kernel_rfl) ?_
  refine J.ok (OK.ldBox S1 0 5 23 0 (.agg #[.string nm, .int .i64 st, .int .i64 ln, .bool mo, .bool sg, .int .i64 num, .int .i64 off, .int .i64 den, .int .i64 low, .int .i64 high]) (by kernel_rfl) rfl (by kernel_rfl)) ?_
  refine J.callF 6 19 #[.agg #[.string nm, .int .i64 st, .int .i64 ln, .bool mo, .bool sg, .int .i64 num, .int .i64 off, .int .i64 den, .int .i64 low, .int .i64 high]] hb19 (by kernel_rfl) (valid_any nm st ln mo sg num off den low high _ (by omega)) ?_
  rintro _ w2 ⟨rfl, T1⟩
  have S2 : Sep w [box b1 [.string nm, .int .i64 st, .int .i64 ln, .bool mo, .bool sg, .int .i64 num, .int .i64 off, .int .i64 den, .int .i64 low, .int .i64 high] 23] w2 := S1.trans T1
  clear T1 S1
  refine J.run 2 K11_2 [(7, .bool (!(sigB nm st ln mo sg num off den low high))), (1, .pointer (some ⟨b1, 0, none⟩))] w2 (by kernel_rfl) ?_
  rcases Bool.eq_false_or_eq_true (sigB nm st ln mo sg num off den low high) with fk1 | fk1
  · skip
    refine J.head (.bool false) (congrArg Value.bool (by rw [fk1]; rfl)) ?_
    obtain ⟨hs1, hs2, hs3, hs4, hs5⟩ := sigB_facts fk1
    refine J.run 9 K11_3 [(8, .pointer (some ⟨b1, 1, none⟩)), (3, .slice none 0 0), (1, .pointer (some ⟨b1, 0, none⟩))] w2 (by kernel_rfl) ?_
    refine J.ok (OK.ldBox S2 0 9 3 1 (.int .i64 st) (by kernel_rfl) rfl (by kernel_rfl)) ?_
    refine J.run 6 K11_4 [(10, .pointer (some ⟨b1, 2, none⟩)), (4, .int .i64 st), (3, .slice none 0 0), (1, .pointer (some ⟨b1, 0, none⟩))] w2 (by kernel_rfl) ?_
    refine J.ok (OK.ldBox S2 0 11 3 2 (.int .i64 ln) (by kernel_rfl) rfl (by kernel_rfl)) ?_
    refine J.run 4 K11_5 [(12, .int .i64 0), (11, .int .i64 ln), (4, .int .i64 st), (3, .slice none 0 0), (1, .pointer (some ⟨b1, 0, none⟩))] w2 (by kernel_rfl) ?_
    have S3 : Sep w [rowOf encI none 0 3 1 ([]), box b1 [.string nm, .int .i64 st, .int .i64 ln, .bool mo, .bool sg, .int .i64 num, .int .i64 off, .int .i64 den, .int .i64 low, .int .i64 high] 23] w2 := S2.nilRow 3 1
    have L11_1 : ∀ (mm_ : Nat) (ra : Option Addr) (rc : Nat) (ls : List Int) (b : Int) (i : Int) (w3 : World), (0 ≤ i) → (i ≤ ln) → ((ls).length = (i).toNat) → (ls = seqF mo st (i).toNat) → (b = iterB mo st (i).toNat) → (0 ≤ b ∧ b ≤ 63 + 15 * i) → Sep w [rowOf encI ra rc 3 1 ls, box b1 [.string nm, .int .i64 st, .int .i64 ln, .bool mo, .bool sg, .int .i64 num, .int .i64 off, .int .i64 den, .int .i64 low, .int .i64 high] 23] w3 → (ln - i).toNat = mm_ → J Try.prog 11 38 R K11_5 [(12, .int .i64 i), (11, .int .i64 ln), (4, .int .i64 b), (3, .slice ra ls.length rc), (1, .pointer (some ⟨b1, 0, none⟩))] w3 := by
      intro mm1
      induction mm1 using Nat.strongRecOn with
      | _ mm1 ih1 =>
      intro ra rc ls b i w3 h0 h1 hn hls hb hbb S4 hm1
      refine J.run 5 K11_6 [(13, .bool (decide (i < ln))), (12, .int .i64 i), (11, .int .i64 ln), (4, .int .i64 b), (3, .slice ra ls.length rc), (1, .pointer (some ⟨b1, 0, none⟩))] w3 (by kernel_rfl) ?_
      by_cases fk2 : i < ln
      · skip
        refine J.head (.bool true) (congrArg Value.bool (decide_eq_true fk2)) ?_
        refine J.run 8 K11_7 [(15, .int .i64 b), (14, .slice ra ls.length rc), (12, .int .i64 i), (11, .int .i64 ln), (4, .int .i64 b), (1, .pointer (some ⟨b1, 0, none⟩))] w3 (by kernel_rfl) ?_
        refine J.newSlice S4 16 1 [.int .i64 b] 3 (by kernel_rfl) ?_
        intro b2 w4 S5
        refine J.append encI S5 1 ls b 17 28 (.int .i64 0) 8 ⟨b2, 0, none⟩ 1 rfl (by kernel_rfl) (by kernel_rfl) (by kernel_rfl) (by kernel_rfl) (by decide) (box_cells (S5.nth 0 rfl)) (by kernel_rfl) (by kernel_rfl) (⟨by omega, by omega⟩) ?_
        intro ra1 rc1 w5 S6
        replace S6 : Sep w [box b2 [.int .i64 b] 3, rowOf encI ra1 rc1 3 1 (ls ++ [b]), box b1 [.string nm, .int .i64 st, .int .i64 ln, .bool mo, .bool sg, .int .i64 num, .int .i64 off, .int .i64 den, .int .i64 low, .int .i64 high] 23] w5 := S6
        have S7 : Sep w [rowOf encI ra1 rc1 3 1 (ls ++ [b]), box b1 [.string nm, .int .i64 st, .int .i64 ln, .bool mo, .bool sg, .int .i64 num, .int .i64 off, .int .i64 den, .int .i64 low, .int .i64 high] 23] w5 := S6.erase 0
        clear S6
        refine J.run 6 K11_8 [(21, .pointer (some ⟨b1, 3, none⟩)), (3, .slice ra1 ((ls ++ [b]).length) rc1), (12, .int .i64 i), (11, .int .i64 ln), (4, .int .i64 b), (1, .pointer (some ⟨b1, 0, none⟩))] w5 (by kernel_rfl) ?_
        refine J.ok (OK.ldBox S7 1 22 4 3 (.bool mo) (by kernel_rfl) rfl (by kernel_rfl)) ?_
        refine J.run 3 K11_9 [(20, .bool (!mo)), (3, .slice ra1 ((ls ++ [b]).length) rc1), (12, .int .i64 i), (11, .int .i64 ln), (4, .int .i64 b), (1, .pointer (some ⟨b1, 0, none⟩))] w5 (by kernel_rfl) ?_
        rcases Bool.eq_false_or_eq_true mo with fk3 | fk3
        · skip
          refine J.head (.bool false) (congrArg Value.bool (by rw [fk3]; rfl)) ?_
          refine J.run 5 K11_10 [(28, .int .i64 (Int.tmod b 8)), (3, .slice ra1 ((ls ++ [b]).length) rc1), (12, .int .i64 i), (11, .int .i64 ln), (4, .int .i64 b), (1, .pointer (some ⟨b1, 0, none⟩))] w5 (by kernel_rfl) ?_
          refine J.head (.int .i64 (b % 8)) (congrArg (Value.int .i64) (IntWalk.rem_in _ _ (by omega))) ?_
          refine J.run 3 K11_11 [(26, .bool ((b % 8) == 0)), (3, .slice ra1 ((ls ++ [b]).length) rc1), (12, .int .i64 i), (11, .int .i64 ln), (4, .int .i64 b), (1, .pointer (some ⟨b1, 0, none⟩))] w5 (by kernel_rfl) ?_
          by_cases fk4 : (b % 8) = 0
          · skip
            refine J.head (.bool true) (congrArg Value.bool (beq_iff_eq.2 fk4)) ?_
            refine J.run 4 K11_12 [(31, .int .i64 (IntKind.wrap .i64 (b + 15))), (3, .slice ra1 ((ls ++ [b]).length) rc1), (12, .int .i64 i), (11, .int .i64 ln), (1, .pointer (some ⟨b1, 0, none⟩))] w5 (by kernel_rfl) ?_
            refine J.head (.int .i64 (b + 15)) (congrArg (Value.int .i64) (IntWalk.i64_in _ (by omega))) ?_
            refine J.run 6 K11_13 [(32, .int .i64 (IntKind.wrap .i64 (i + 1))), (4, .int .i64 (b + 15)), (3, .slice ra1 ((ls ++ [b]).length) rc1), (11, .int .i64 ln), (1, .pointer (some ⟨b1, 0, none⟩))] w5 (by kernel_rfl) ?_
            refine J.head (.int .i64 (i + 1)) (congrArg (Value.int .i64) (IntWalk.i64_in _ (by omega))) ?_
            refine J.run 3 K11_5 [(12, .int .i64 (i + 1)), (4, .int .i64 (b + 15)), (3, .slice ra1 ((ls ++ [b]).length) rc1), (11, .int .i64 ln), (1, .pointer (some ⟨b1, 0, none⟩))] w5 (by kernel_rfl) ?_
            refine J.run 0 K11_5 [(12, .int .i64 (i + 1)), (11, .int .i64 ln), (4, .int .i64 (b + 15)), (3, .slice ra1 ((ls ++ [b]).length) rc1), (1, .pointer (some ⟨b1, 0, none⟩))] w5 (by kernel_rfl) ?_
            exact ih1 _ (show (ln - (i + 1)).toNat < mm1 from by omega) ra1 rc1 (ls ++ [b]) (b + 15) (i + 1) w5 (by omega) (by omega) (by simp; omega) (by rw [seqF_snoc h0 hb, ← hls]) (iterB_next h0 hb (by simp [nextB, fk1, fk2, fk3, fk4])) (by omega) S7 rfl
          · skip
            refine J.head (.bool false) (congrArg Value.bool (beq_eq_false_iff_ne.2 fk4)) ?_
            refine J.run 4 K11_14 [(19, .int .i64 (IntKind.wrap .i64 (b - 1))), (3, .slice ra1 ((ls ++ [b]).length) rc1), (12, .int .i64 i), (11, .int .i64 ln), (1, .pointer (some ⟨b1, 0, none⟩))] w5 (by kernel_rfl) ?_
            refine J.head (.int .i64 (b - 1)) (congrArg (Value.int .i64) (IntWalk.i64_in _ (by omega))) ?_
            refine J.run 6 K11_15 [(32, .int .i64 (IntKind.wrap .i64 (i + 1))), (4, .int .i64 (b - 1)), (3, .slice ra1 ((ls ++ [b]).length) rc1), (11, .int .i64 ln), (1, .pointer (some ⟨b1, 0, none⟩))] w5 (by kernel_rfl) ?_
            refine J.head (.int .i64 (i + 1)) (congrArg (Value.int .i64) (IntWalk.i64_in _ (by omega))) ?_
            refine J.run 3 K11_5 [(12, .int .i64 (i + 1)), (4, .int .i64 (b - 1)), (3, .slice ra1 ((ls ++ [b]).length) rc1), (11, .int .i64 ln), (1, .pointer (some ⟨b1, 0, none⟩))] w5 (by kernel_rfl) ?_
            refine J.run 0 K11_5 [(12, .int .i64 (i + 1)), (11, .int .i64 ln), (4, .int .i64 (b - 1)), (3, .slice ra1 ((ls ++ [b]).length) rc1), (1, .pointer (some ⟨b1, 0, none⟩))] w5 (by kernel_rfl) ?_
            exact ih1 _ (show (ln - (i + 1)).toNat < mm1 from by omega) ra1 rc1 (ls ++ [b]) (b - 1) (i + 1) w5 (by omega) (by omega) (by simp; omega) (by rw [seqF_snoc h0 hb, ← hls]) (iterB_next h0 hb (by simp [nextB, fk1, fk2, fk3, fk4])) (by omega) S7 rfl
        · skip
          refine J.head (.bool true) (congrArg Value.bool (by rw [fk3]; rfl)) ?_
          refine J.run 4 K11_16 [(25, .int .i64 (IntKind.wrap .i64 (b + 1))), (3, .slice ra1 ((ls ++ [b]).length) rc1), (12, .int .i64 i), (11, .int .i64 ln), (1, .pointer (some ⟨b1, 0, none⟩))] w5 (by kernel_rfl) ?_
          refine J.head (.int .i64 (b + 1)) (congrArg (Value.int .i64) (IntWalk.i64_in _ (by omega))) ?_
          refine J.run 6 K11_17 [(32, .int .i64 (IntKind.wrap .i64 (i + 1))), (4, .int .i64 (b + 1)), (3, .slice ra1 ((ls ++ [b]).length) rc1), (11, .int .i64 ln), (1, .pointer (some ⟨b1, 0, none⟩))] w5 (by kernel_rfl) ?_
          refine J.head (.int .i64 (i + 1)) (congrArg (Value.int .i64) (IntWalk.i64_in _ (by omega))) ?_
          refine J.run 3 K11_5 [(12, .int .i64 (i + 1)), (4, .int .i64 (b + 1)), (3, .slice ra1 ((ls ++ [b]).length) rc1), (11, .int .i64 ln), (1, .pointer (some ⟨b1, 0, none⟩))] w5 (by kernel_rfl) ?_
          refine J.run 0 K11_5 [(12, .int .i64 (i + 1)), (11, .int .i64 ln), (4, .int .i64 (b + 1)), (3, .slice ra1 ((ls ++ [b]).length) rc1), (1, .pointer (some ⟨b1, 0, none⟩))] w5 (by kernel_rfl) ?_
          exact ih1 _ (show (ln - (i + 1)).toNat < mm1 from by omega) ra1 rc1 (ls ++ [b]) (b + 1) (i + 1) w5 (by omega) (by omega) (by simp; omega) (by rw [seqF_snoc h0 hb, ← hls]) (iterB_next h0 hb (by simp [nextB, fk1, fk2, fk3])) (by omega) S7 rfl
      · skip
        refine J.head (.bool false) (congrArg Value.bool (decide_eq_false fk2)) ?_
        refine J.run 6 K11_18 [(33, .pointer (some ⟨b1, 3, none⟩)), (3, .slice ra ls.length rc)] w3 (by kernel_rfl) ?_
        refine J.ok (OK.ldBox S4 1 34 4 3 (.bool mo) (by kernel_rfl) rfl (by kernel_rfl)) ?_
        refine J.run 1 K11_19 [(34, .bool mo), (3, .slice ra ls.length rc)] w3 (by kernel_rfl) ?_
        rcases Bool.eq_false_or_eq_true mo with fk5 | fk5
        · skip
          refine J.head (.bool true) (congrArg Value.bool fk5) ?_
          refine J.run 3 K11_20 [(35, .slice ra ls.length rc), (3, .slice ra ls.length rc)] w3 (by kernel_rfl) ?_
          have S8 : Sep w [rowOf encI ra rc 3 1 ls, box b1 [.string nm, .int .i64 st, .int .i64 ln, .bool mo, .bool sg, .int .i64 num, .int .i64 off, .int .i64 den, .int .i64 low, .int .i64 high] 23] w3 := S4.front 0 rfl
          clear S4
          refine J.callF 36 23 #[.slice ra ls.length rc] hb23 (by kernel_rfl) (reverse_any ra rc ls _ _ _ S8 (by omega)) ?_
          rintro _ w6 ⟨rfl, S9⟩
          replace S9 : Sep w [rowOf encI ra rc 3 1 ls.reverse, box b1 [.string nm, .int .i64 st, .int .i64 ln, .bool mo, .bool sg, .int .i64 num, .int .i64 off, .int .i64 den, .int .i64 low, .int .i64 high] 23] w6 := S9
          clear S8
          refine J.run 6 K11_21 [(2, .slice ra ls.length rc)] w6 (by kernel_rfl) ?_
          refine J.ret Try.f11 [.slice ra ls.length rc] Try.func11 ⟨by kernel_rfl, trivial⟩ ?_
          refine hR _ _ ?_
          have e : ls.reverse = bitsF nm st ln mo sg num off den low high := by unfold bitsF; rw [fk1, hls, show i = ln by omega]; simp [fk5]
          exact ⟨ra, rc, by rw [tup_one, ← e] <;> simp, by rw [← e]; exact S9.pick 0 rfl⟩
        · skip
          refine J.head (.bool false) (congrArg Value.bool fk5) ?_
          refine J.run 7 K11_22 [(2, .slice ra ls.length rc)] w3 (by kernel_rfl) ?_
          refine J.ret Try.f11 [.slice ra ls.length rc] Try.func11 ⟨by kernel_rfl, trivial⟩ ?_
          refine hR _ _ ?_
          have e : ls = bitsF nm st ln mo sg num off den low high := by unfold bitsF; rw [fk1, hls, show i = ln by omega]; simp [fk5]
          exact ⟨ra, rc, by rw [tup_one, ← e] <;> simp, by rw [← e]; exact S4.pick 0 rfl⟩
    exact L11_1 _ none 0 ([]) st 0 w2 (by omega) (by omega) (rfl) (rfl) (rfl) (by omega) S3 rfl
  · skip
    refine J.head (.bool true) (congrArg Value.bool (by rw [fk1]; rfl)) ?_
    refine J.run 5 K11_23 [(2, .slice none 0 0)] w2 (by kernel_rfl) ?_
    refine J.ret Try.f11 [.slice none 0 0] Try.func11 ⟨by kernel_rfl, trivial⟩ ?_
    refine hR _ _ ?_
    exact ⟨none, 0, by rw [bitsF, fk1]; rfl, by rw [bitsF, fk1]; exact (S2.nilRow 3 1).pick 0 rfl⟩

theorem hb12 : HasBody Try.prog 12 := fun _ _ => by kernel_rfl
noncomputable def K12_0 : List Item := adv 2 [] (bodyOf Try.f12)
noncomputable def K12_1 : List Item := adv 9 [] (popK K12_0)
noncomputable def K12_2 : List Item := adv 2 [] (popK (popK K12_1))
noncomputable def K12_3 : List Item := adv 6 [false] K12_2
noncomputable def K12_4 : List Item := adv 2 [] (popK K12_3)
noncomputable def K12_5 : List Item := adv 5 [false] K12_4
noncomputable def K12_6 : List Item := adv 9 [] (popK K12_5)
noncomputable def K12_7 : List Item := adv 5 [] K12_6
noncomputable def K12_8 : List Item := adv 2 [] (popK K12_7)
noncomputable def K12_9 : List Item := adv 7 [true] K12_8
noncomputable def K12_10 : List Item := adv 1 [] (popK K12_9)
noncomputable def K12_11 : List Item := adv 6 [] (popK K12_10)
noncomputable def K12_12 : List Item := adv 2 [] K12_11
noncomputable def K12_13 : List Item := adv 4 [true] K12_12
noncomputable def K12_14 : List Item := adv 6 [] K12_13
noncomputable def K12_15 : List Item := adv 4 [false] K12_12
noncomputable def K12_16 : List Item := adv 6 [] K12_15
noncomputable def K12_17 : List Item := adv 7 [false] K12_8
noncomputable def K12_18 : List Item := adv 8 [true] K12_4
noncomputable def K12_19 : List Item := adv 5 [] K12_18
noncomputable def K12_20 : List Item := adv 2 [] (popK K12_19)
noncomputable def K12_21 : List Item := adv 7 [true] K12_20
noncomputable def K12_22 : List Item := adv 2 [] (popK K12_21)
noncomputable def K12_23 : List Item := adv 6 [] (popK (popK K12_22))
noncomputable def K12_24 : List Item := adv 7 [false] K12_20
noncomputable def K12_25 : List Item := adv 6 [true] K12_2
set_option maxRecDepth 20000 in
set_option maxHeartbeats 20000000 in
theorem rbits_any (nm : ByteArray) (st ln : Int) (mo sg : Bool) (num off den low high : Int) (w : World) (hnm : nm.size ≤ 9223372036854775807) : Ret Try.prog 12 #[.agg #[.string nm, .int .i64 st, .int .i64 ln, .bool mo, .bool sg, .int .i64 num, .int .i64 off, .int .i64 den, .int .i64 low, .int .i64 high]] w (fun v w' => ∃ a cap, v = .slice a (bitsF nm st ln mo sg num off den low high).length cap ∧ Sep w [rowOf encI a cap 3 1 (bitsF nm st ln mo sg num off den low high)] w') := by
  have S0 := Sep.refl w
  refine Ret.named fun R hR => ?_
  refine Ret.of_J (N := 48) [(0, .agg #[.string nm, .int .i64 st, .int .i64 ln, .bool mo, .bool sg, .int .i64 num, .int .i64 off, .int .i64 den, .int .i64 low, .int .i64 high])] Try.func12 rfl rfl (Nat.le_of_ble_eq_true (by kernel_rfl)) (by kernel_rfl) ?_
  refine J.run 2 K12_0 [(0, .agg #[.string nm, .int .i64 st, .int .i64 ln, .bool mo, .bool sg, .int .i64 num, .int .i64 off, .int .i64 den, .int .i64 low, .int .i64 high])] w (by kernel_rfl) ?_
  refine J.new S0 1 [.string nm, .int .i64 st, .int .i64 ln, .bool mo, .bool sg, .int .i64 num, .int .i64 off, .int .i64 den, .int .i64 low, .int .i64 high] 23 (by kernel_rfl) ?_
  intro b1 w1 S1
  refine J.run 9 K12_1 [(3, .slice none 0 0), (1, .pointer (some ⟨b1, 0, none⟩))] w1 (by kernel_rfl) ?_
  refine J.ok (OK.ldBox S1 0 7 23 0 (.agg #[.string nm, .int .i64 st, .int .i64 ln, .bool mo, .bool sg, .int .i64 num, .int .i64 off, .int .i64 den, .int .i64 low, .int .i64 high]) (by kernel_rfl) rfl (by kernel_rfl)) ?_
  refine J.callF 8 21 #[.agg #[.string nm, .int .i64 st, .int .i64 ln, .bool mo, .bool sg, .int .i64 num, .int .i64 off, .int .i64 den, .int .i64 low, .int .i64 high]] hb21 (by kernel_rfl) (rsignal_any nm st ln mo sg num off den low high _ (by omega)) ?_
  rintro _ w2 ⟨rfl, T1⟩
  have S2 : Sep w [box b1 [.string nm, .int .i64 st, .int .i64 ln, .bool mo, .bool sg, .int .i64 num, .int .i64 off, .int .i64 den, .int .i64 low, .int .i64 high] 23] w2 := S1.trans T1
  clear T1 S1
  refine J.run 2 K12_2 [(9, .bool (!(sigB nm st ln mo sg num off den low high))), (3, .slice none 0 0), (1, .pointer (some ⟨b1, 0, none⟩))] w2 (by kernel_rfl) ?_
  rcases Bool.eq_false_or_eq_true (sigB nm st ln mo sg num off den low high) with fk1 | fk1
  · skip
    refine J.head (.bool false) (congrArg Value.bool (by rw [fk1]; rfl)) ?_
    obtain ⟨hs1, hs2, hs3, hs4, hs5⟩ := sigB_facts fk1
    refine J.run 6 K12_3 [(11, .pointer (some ⟨b1, 3, none⟩)), (3, .slice none 0 0), (1, .pointer (some ⟨b1, 0, none⟩))] w2 (by kernel_rfl) ?_
    refine J.ok (OK.ldBox S2 0 12 4 3 (.bool mo) (by kernel_rfl) rfl (by kernel_rfl)) ?_
    refine J.run 2 K12_4 [(13, .bool (!mo)), (3, .slice none 0 0), (1, .pointer (some ⟨b1, 0, none⟩))] w2 (by kernel_rfl) ?_
    rcases Bool.eq_false_or_eq_true mo with fk2 | fk2
    · skip
      refine J.head (.bool false) (congrArg Value.bool (by rw [fk2]; rfl)) ?_
      refine J.run 5 K12_5 [(28, .pointer (some ⟨b1, 1, none⟩)), (3, .slice none 0 0), (1, .pointer (some ⟨b1, 0, none⟩))] w2 (by kernel_rfl) ?_
      refine J.ok (OK.ldBox S2 0 29 3 1 (.int .i64 st) (by kernel_rfl) rfl (by kernel_rfl)) ?_
      refine J.run 9 K12_6 [(6, .int .i64 0), (5, .int .i64 st), (3, .slice none 0 0), (1, .pointer (some ⟨b1, 0, none⟩))] w2 (by kernel_rfl) ?_
      have S3 : Sep w [rowOf encI none 0 3 1 ([]), box b1 [.string nm, .int .i64 st, .int .i64 ln, .bool mo, .bool sg, .int .i64 num, .int .i64 off, .int .i64 den, .int .i64 low, .int .i64 high] 23] w2 := S2.nilRow 3 1
      have L12_1 : ∀ (mm_ : Nat) (ra : Option Addr) (rc : Nat) (ls : List Int) (b : Int) (i : Int) (w3 : World), (0 ≤ i) → (i ≤ ln) → ((ls).length = (i).toNat) → (ls = (seqF true st (i).toNat).reverse) → (b = iterB true st (i).toNat) → (0 ≤ b ∧ b ≤ 63 + 15 * i) → Sep w [rowOf encI ra rc 3 1 ls, box b1 [.string nm, .int .i64 st, .int .i64 ln, .bool mo, .bool sg, .int .i64 num, .int .i64 off, .int .i64 den, .int .i64 low, .int .i64 high] 23] w3 → (ln - i).toNat = mm_ → J Try.prog 12 48 R K12_6 [(6, .int .i64 i), (5, .int .i64 b), (3, .slice ra ls.length rc), (1, .pointer (some ⟨b1, 0, none⟩))] w3 := by
        intro mm1
        induction mm1 using Nat.strongRecOn with
        | _ mm1 ih1 =>
        intro ra rc ls b i w3 h0 h1 hn hls hb hbb S4 hm1
        refine J.run 5 K12_7 [(31, .pointer (some ⟨b1, 2, none⟩)), (30, .int .i64 i), (6, .int .i64 i), (5, .int .i64 b), (3, .slice ra ls.length rc), (1, .pointer (some ⟨b1, 0, none⟩))] w3 (by kernel_rfl) ?_
        refine J.ok (OK.ldBox S4 1 32 3 2 (.int .i64 ln) (by kernel_rfl) rfl (by kernel_rfl)) ?_
        refine J.run 2 K12_8 [(33, .bool (decide (i < ln))), (6, .int .i64 i), (5, .int .i64 b), (3, .slice ra ls.length rc), (1, .pointer (some ⟨b1, 0, none⟩))] w3 (by kernel_rfl) ?_
        by_cases fk3 : i < ln
        · skip
          refine J.head (.bool true) (congrArg Value.bool (decide_eq_true fk3)) ?_
          refine J.run 7 K12_9 [(36, .int .i64 b), (6, .int .i64 i), (5, .int .i64 b), (3, .slice ra ls.length rc), (1, .pointer (some ⟨b1, 0, none⟩))] w3 (by kernel_rfl) ?_
          refine J.newSlice S4 37 1 [.int .i64 b] 3 (by kernel_rfl) ?_
          intro b2 w4 S5
          refine J.run 1 K12_10 [(38, .slice ra ls.length rc), (37, .slice (some ⟨b2, 0, none⟩) 1 1), (6, .int .i64 i), (5, .int .i64 b), (1, .pointer (some ⟨b1, 0, none⟩))] w4 (by kernel_rfl) ?_
          have S6 : Sep w [rowOf encI (some ⟨b2, 0, none⟩) 1 3 1 ([b]), rowOf encI ra rc 3 1 ls, box b1 [.string nm, .int .i64 st, .int .i64 ln, .bool mo, .bool sg, .int .i64 num, .int .i64 off, .int .i64 den, .int .i64 low, .int .i64 high] 23] w4 := box_row encI S5 0 [b] 1 rfl rfl rfl (by simp [maxLen]) (.inr trivial)
          refine J.appendL encI S6 0 ([b]) ls 39 28 (.int .i64 0) 8 ra rc rfl (by kernel_rfl) (by kernel_rfl) (by kernel_rfl) (by kernel_rfl) (by decide) (rowOf_cells (S6.nth 1 rfl)).1 (rowOf_cells (S6.nth 1 rfl)).2.1 (fun _ => rfl) (fun _ => rfl) (⟨by first | omega | (simp; omega), by first | omega | (simp; omega)⟩) ?_
          intro ra1 rc1 w5 S7
          replace S7 : Sep w [rowOf encI ra1 rc1 3 1 (([b]) ++ ls), rowOf encI ra rc 3 1 ls, box b1 [.string nm, .int .i64 st, .int .i64 ln, .bool mo, .bool sg, .int .i64 num, .int .i64 off, .int .i64 den, .int .i64 low, .int .i64 high] 23] w5 := S7
          refine J.run 6 K12_11 [(41, .int .i64 (Int.tmod b 8)), (3, .slice ra1 ((([b]) ++ ls).length) rc1), (6, .int .i64 i), (5, .int .i64 b), (1, .pointer (some ⟨b1, 0, none⟩))] w5 (by kernel_rfl) ?_
          refine J.head (.int .i64 (b % 8)) (congrArg (Value.int .i64) (IntWalk.rem_in _ _ (by omega))) ?_
          refine J.run 2 K12_12 [(42, .bool ((b % 8) == 0)), (3, .slice ra1 ((([b]) ++ ls).length) rc1), (6, .int .i64 i), (5, .int .i64 b), (1, .pointer (some ⟨b1, 0, none⟩))] w5 (by kernel_rfl) ?_
          by_cases fk4 : (b % 8) = 0
          · skip
            refine J.head (.bool true) (congrArg Value.bool (beq_iff_eq.2 fk4)) ?_
            refine J.run 4 K12_13 [(44, .int .i64 (IntKind.wrap .i64 (b + 15))), (3, .slice ra1 ((([b]) ++ ls).length) rc1), (6, .int .i64 i), (1, .pointer (some ⟨b1, 0, none⟩))] w5 (by kernel_rfl) ?_
            refine J.head (.int .i64 (b + 15)) (congrArg (Value.int .i64) (IntWalk.i64_in _ (by omega))) ?_
            refine J.run 6 K12_14 [(35, .int .i64 (IntKind.wrap .i64 (i + 1))), (5, .int .i64 (b + 15)), (3, .slice ra1 ((([b]) ++ ls).length) rc1), (1, .pointer (some ⟨b1, 0, none⟩))] w5 (by kernel_rfl) ?_
            refine J.head (.int .i64 (i + 1)) (congrArg (Value.int .i64) (IntWalk.i64_in _ (by omega))) ?_
            refine J.run 3 K12_6 [(6, .int .i64 (i + 1)), (5, .int .i64 (b + 15)), (3, .slice ra1 ((([b]) ++ ls).length) rc1), (1, .pointer (some ⟨b1, 0, none⟩))] w5 (by kernel_rfl) ?_
            have S8 : Sep w [rowOf encI ra1 rc1 3 1 (([b]) ++ ls), box b1 [.string nm, .int .i64 st, .int .i64 ln, .bool mo, .bool sg, .int .i64 num, .int .i64 off, .int .i64 den, .int .i64 low, .int .i64 high] 23] w5 := S7.erase 1
            clear S7
            refine J.run 0 K12_6 [(6, .int .i64 (i + 1)), (5, .int .i64 (b + 15)), (3, .slice ra1 ((([b]) ++ ls).length) rc1), (1, .pointer (some ⟨b1, 0, none⟩))] w5 (by kernel_rfl) ?_
            exact ih1 _ (show (ln - (i + 1)).toNat < mm1 from by omega) ra1 rc1 (([b]) ++ ls) (b + 15) (i + 1) w5 (by omega) (by omega) (by simp; omega) (by rw [seqF_snoc h0 hb, List.reverse_append, ← hls]; rfl) (iterB_next h0 hb (by simp [nextB, fk1, fk2, fk3, fk4])) (by omega) S8 rfl
          · skip
            refine J.head (.bool false) (congrArg Value.bool (beq_eq_false_iff_ne.2 fk4)) ?_
            refine J.run 4 K12_15 [(46, .int .i64 (IntKind.wrap .i64 (b - 1))), (3, .slice ra1 ((([b]) ++ ls).length) rc1), (6, .int .i64 i), (1, .pointer (some ⟨b1, 0, none⟩))] w5 (by kernel_rfl) ?_
            refine J.head (.int .i64 (b - 1)) (congrArg (Value.int .i64) (IntWalk.i64_in _ (by omega))) ?_
            refine J.run 6 K12_16 [(35, .int .i64 (IntKind.wrap .i64 (i + 1))), (5, .int .i64 (b - 1)), (3, .slice ra1 ((([b]) ++ ls).length) rc1), (1, .pointer (some ⟨b1, 0, none⟩))] w5 (by kernel_rfl) ?_
            refine J.head (.int .i64 (i + 1)) (congrArg (Value.int .i64) (IntWalk.i64_in _ (by omega))) ?_
            refine J.run 3 K12_6 [(6, .int .i64 (i + 1)), (5, .int .i64 (b - 1)), (3, .slice ra1 ((([b]) ++ ls).length) rc1), (1, .pointer (some ⟨b1, 0, none⟩))] w5 (by kernel_rfl) ?_
            have S9 : Sep w [rowOf encI ra1 rc1 3 1 (([b]) ++ ls), box b1 [.string nm, .int .i64 st, .int .i64 ln, .bool mo, .bool sg, .int .i64 num, .int .i64 off, .int .i64 den, .int .i64 low, .int .i64 high] 23] w5 := S7.erase 1
            clear S7
            refine J.run 0 K12_6 [(6, .int .i64 (i + 1)), (5, .int .i64 (b - 1)), (3, .slice ra1 ((([b]) ++ ls).length) rc1), (1, .pointer (some ⟨b1, 0, none⟩))] w5 (by kernel_rfl) ?_
            exact ih1 _ (show (ln - (i + 1)).toNat < mm1 from by omega) ra1 rc1 (([b]) ++ ls) (b - 1) (i + 1) w5 (by omega) (by omega) (by simp; omega) (by rw [seqF_snoc h0 hb, List.reverse_append, ← hls]; rfl) (iterB_next h0 hb (by simp [nextB, fk1, fk2, fk3, fk4])) (by omega) S9 rfl
        · skip
          refine J.head (.bool false) (congrArg Value.bool (decide_eq_false fk3)) ?_
          refine J.run 7 K12_17 [(2, .slice ra ls.length rc)] w3 (by kernel_rfl) ?_
          refine J.ret Try.f12 [.slice ra ls.length rc] Try.func12 ⟨by kernel_rfl, trivial⟩ ?_
          refine hR _ _ ?_
          have e : ls = bitsF nm st ln mo sg num off den low high := by unfold bitsF; rw [fk1, hls, show i = ln by omega]; simp [fk2]
          exact ⟨ra, rc, by rw [tup_one, ← e] <;> simp, by rw [← e]; exact S4.pick 0 rfl⟩
      exact L12_1 _ none 0 ([]) st 0 w2 (by omega) (by omega) (rfl) (rfl) (rfl) (by omega) S3 rfl
    · skip
      refine J.head (.bool true) (congrArg Value.bool (by rw [fk2]; rfl)) ?_
      refine J.run 8 K12_18 [(4, .int .i64 0), (3, .slice none 0 0), (1, .pointer (some ⟨b1, 0, none⟩))] w2 (by kernel_rfl) ?_
      have S10 : Sep w [rowOf encI none 0 3 1 ([]), box b1 [.string nm, .int .i64 st, .int .i64 ln, .bool mo, .bool sg, .int .i64 num, .int .i64 off, .int .i64 den, .int .i64 low, .int .i64 high] 23] w2 := S2.nilRow 3 1
      have L12_2 : ∀ (mm_ : Nat) (ra : Option Addr) (rc : Nat) (ls : List Int) (i : Int) (w6 : World), (0 ≤ i) → (i ≤ ln) → ((ls).length = (i).toNat) → (ls = seqF false st (i).toNat) → Sep w [rowOf encI ra rc 3 1 ls, box b1 [.string nm, .int .i64 st, .int .i64 ln, .bool mo, .bool sg, .int .i64 num, .int .i64 off, .int .i64 den, .int .i64 low, .int .i64 high] 23] w6 → (ln - i).toNat = mm_ → J Try.prog 12 48 R K12_18 [(4, .int .i64 i), (3, .slice ra ls.length rc), (1, .pointer (some ⟨b1, 0, none⟩))] w6 := by
        intro mm2
        induction mm2 using Nat.strongRecOn with
        | _ mm2 ih2 =>
        intro ra rc ls i w6 h0 h1 hn hls S11 hm2
        refine J.run 5 K12_19 [(15, .pointer (some ⟨b1, 2, none⟩)), (14, .int .i64 i), (4, .int .i64 i), (3, .slice ra ls.length rc), (1, .pointer (some ⟨b1, 0, none⟩))] w6 (by kernel_rfl) ?_
        refine J.ok (OK.ldBox S11 1 16 3 2 (.int .i64 ln) (by kernel_rfl) rfl (by kernel_rfl)) ?_
        refine J.run 2 K12_20 [(17, .bool (decide (i < ln))), (4, .int .i64 i), (3, .slice ra ls.length rc), (1, .pointer (some ⟨b1, 0, none⟩))] w6 (by kernel_rfl) ?_
        by_cases fk5 : i < ln
        · skip
          refine J.head (.bool true) (congrArg Value.bool (decide_eq_true fk5)) ?_
          refine J.run 7 K12_21 [(21, .pointer (some ⟨b1, 1, none⟩)), (20, .slice ra ls.length rc), (4, .int .i64 i), (1, .pointer (some ⟨b1, 0, none⟩))] w6 (by kernel_rfl) ?_
          refine J.ok (OK.ldBox S11 1 22 3 1 (.int .i64 st) (by kernel_rfl) rfl (by kernel_rfl)) ?_
          refine J.run 2 K12_22 [(24, .int .i64 (IntKind.wrap .i64 (st + i))), (20, .slice ra ls.length rc), (4, .int .i64 i), (1, .pointer (some ⟨b1, 0, none⟩))] w6 (by kernel_rfl) ?_
          refine J.head (.int .i64 (st + i)) (congrArg (Value.int .i64) (IntWalk.i64_in _ (by omega))) ?_
          refine J.newSlice S11 25 1 [.int .i64 (st + i)] 3 (by kernel_rfl) ?_
          intro b3 w7 S12
          refine J.append encI S12 1 ls (st + i) 26 28 (.int .i64 0) 8 ⟨b3, 0, none⟩ 1 rfl (by kernel_rfl) (by kernel_rfl) (by kernel_rfl) (by kernel_rfl) (by decide) (box_cells (S12.nth 0 rfl)) (by kernel_rfl) (by kernel_rfl) (⟨by omega, by omega⟩) ?_
          intro ra2 rc2 w8 S13
          replace S13 : Sep w [box b3 [.int .i64 (st + i)] 3, rowOf encI ra2 rc2 3 1 (ls ++ [st + i]), box b1 [.string nm, .int .i64 st, .int .i64 ln, .bool mo, .bool sg, .int .i64 num, .int .i64 off, .int .i64 den, .int .i64 low, .int .i64 high] 23] w8 := S13
          have S14 : Sep w [rowOf encI ra2 rc2 3 1 (ls ++ [st + i]), box b1 [.string nm, .int .i64 st, .int .i64 ln, .bool mo, .bool sg, .int .i64 num, .int .i64 off, .int .i64 den, .int .i64 low, .int .i64 high] 23] w8 := S13.erase 0
          clear S13
          refine J.run 6 K12_23 [(19, .int .i64 (IntKind.wrap .i64 (i + 1))), (3, .slice ra2 ((ls ++ [st + i]).length) rc2), (1, .pointer (some ⟨b1, 0, none⟩))] w8 (by kernel_rfl) ?_
          refine J.head (.int .i64 (i + 1)) (congrArg (Value.int .i64) (IntWalk.i64_in _ (by omega))) ?_
          refine J.run 3 K12_18 [(4, .int .i64 (i + 1)), (3, .slice ra2 ((ls ++ [st + i]).length) rc2), (1, .pointer (some ⟨b1, 0, none⟩))] w8 (by kernel_rfl) ?_
          refine J.run 0 K12_18 [(4, .int .i64 (i + 1)), (3, .slice ra2 ((ls ++ [st + i]).length) rc2), (1, .pointer (some ⟨b1, 0, none⟩))] w8 (by kernel_rfl) ?_
          exact ih2 _ (show (ln - (i + 1)).toNat < mm2 from by omega) ra2 rc2 (ls ++ [st + i]) (i + 1) w8 (by omega) (by omega) (by simp; omega) (by rw [seqF_snoc h0 (show st + i = iterB false st i.toNat by rw [iterB_up]; omega), ← hls]) S14 rfl
        · skip
          refine J.head (.bool false) (congrArg Value.bool (decide_eq_false fk5)) ?_
          refine J.run 7 K12_24 [(2, .slice ra ls.length rc)] w6 (by kernel_rfl) ?_
          refine J.ret Try.f12 [.slice ra ls.length rc] Try.func12 ⟨by kernel_rfl, trivial⟩ ?_
          refine hR _ _ ?_
          have e : ls = bitsF nm st ln mo sg num off den low high := by unfold bitsF; rw [fk1, hls, show i = ln by omega]; simp [fk2]
          exact ⟨ra, rc, by rw [tup_one, ← e] <;> simp, by rw [← e]; exact S11.pick 0 rfl⟩
      exact L12_2 _ none 0 ([]) 0 w2 (by omega) (by omega) (rfl) (rfl) S10 rfl
  · skip
    refine J.head (.bool true) (congrArg Value.bool (by rw [fk1]; rfl)) ?_
    refine J.run 6 K12_25 [(2, .slice none 0 0)] w2 (by kernel_rfl) ?_
    refine J.ret Try.f12 [.slice none 0 0] Try.func12 ⟨by kernel_rfl, trivial⟩ ?_
    refine hR _ _ ?_
    exact ⟨none, 0, by rw [bitsF, fk1]; rfl, by rw [bitsF, fk1]; exact (S2.nilRow 3 1).pick 0 rfl⟩

end Go.Proofs.Ytpmkdhdcejcpfaa
