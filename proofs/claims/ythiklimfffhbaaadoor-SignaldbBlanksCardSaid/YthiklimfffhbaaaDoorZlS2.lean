/- Walks of functions of this seat, printed by a program over the engine. Conditions: as each theorem says. -/
import Derived.Test.YthiklimfffhbaaaDoorZlA1
namespace Go.Proofs.YthiklimfffhbaaaDoor
noncomputable section
open Go.Eng Go.RowKit
set_option linter.unusedSimpArgs false
set_option linter.unusedVariables false

def letterB (c : Int) : Bool := (decide (65 ≤ c) && decide (c ≤ 90)) || (decide (97 ≤ c) && decide (c ≤ 122))
def digitB (c : Int) : Bool := decide (48 ≤ c) && decide (c ≤ 57)
def partB (c : Int) : Bool := letterB c || digitB c || c == 95
def nameB (s : ByteArray) : Bool := decide (1 ≤ s.size) && decide (s.size ≤ 24) && letterB (byteAt s 0) && (List.range s.size).all fun j => partB (byteAt s j)
theorem all_range_false {n j : Nat} {p : Nat → Bool} (h : j < n) (hp : p j = false) : (List.range n).all p = false := by
  rw [List.all_eq_false]; exact ⟨j, by simpa using h, by simp [hp]⟩
theorem all_range_true {n : Nat} {p : Nat → Bool} (h : ∀ j, j < n → p j = true) : (List.range n).all p = true := by
  rw [List.all_eq_true]; intro j hj; exact h j (by simpa using hj)
theorem name_no {s : ByteArray} (h : s.size < 1 ∨ 24 < s.size ∨ letterB (byteAt s 0) = false) : nameB s = false := by
  unfold nameB
  rcases h with h | h | h
  · rw [decide_eq_false (show ¬ 1 ≤ s.size by omega)]; rfl
  · rw [decide_eq_false (show ¬ s.size ≤ 24 by omega)]; simp
  · rw [h]; simp
theorem name_bad {s : ByteArray} {i : Int} (h0 : 0 ≤ i) (h : i < (s.size : Int)) (hp : partB (byteAt s i.toNat) = false) : nameB s = false := by
  unfold nameB; rw [all_range_false (j := i.toNat) (by omega) hp]; simp
theorem name_yes {s : ByteArray} (h1 : 1 ≤ s.size) (h2 : s.size ≤ 24) (h3 : letterB (byteAt s 0) = true) (h4 : ∀ j, j < s.size → partB (byteAt s j) = true) : nameB s = true := by
  unfold nameB; rw [decide_eq_true h1, decide_eq_true h2, h3, all_range_true h4]; rfl
theorem pow32 {n : Nat} (h : n ≤ 32) : (1 : Int) ≤ 2 ^ n ∧ (2 : Int) ^ n ≤ 4294967296 := by
  have h1 : (1 : Int) ≤ 2 ^ n := by exact_mod_cast Nat.one_le_two_pow
  have h2 : (2 : Int) ^ n ≤ 2 ^ 32 := by exact_mod_cast Nat.pow_le_pow_right (by omega) h
  omega
theorem shl_i {x y : Int} (hx : x = 1 ∨ x = -1) (h0 : 0 ≤ y) (h : y ≤ 32) : IntKind.wrap .i64 (x * 2 ^ min y.toNat (IntKind.bits .i64)) = x * 2 ^ y.toNat := by
  have hp := pow32 (n := y.toNat) (by omega)
  rw [show min y.toNat (IntKind.bits .i64) = y.toNat from Nat.min_eq_left (show y.toNat ≤ 64 by omega)]
  rcases hx with rfl | rfl <;> exact IntWalk.i64_in _ (by omega)
theorem shl_one {y : Int} (h0 : 0 ≤ y) (h : y ≤ 32) : IntKind.wrap .i64 (1 * 2 ^ min y.toNat (IntKind.bits .i64)) = 2 ^ y.toNat := by rw [shl_i (.inl rfl) h0 h, Int.one_mul]
def lowF (ln : Int) (sg : Bool) : Int := if sg then -(2 ^ (ln - 1).toNat) else 0
def highF (ln : Int) (sg : Bool) : Int := if sg then 2 ^ (ln - 1).toNat - 1 else 2 ^ ln.toNat - 1
def inB (x a b : Int) : Bool := decide (a ≤ x) && decide (x ≤ b)
def sigB (nm : ByteArray) (st ln : Int) (mo sg : Bool) (num off den low high : Int) : Bool :=
  nameB nm && inB ln 1 32 && inB st 0 63 && inB num 1 1048576 && inB den 1 1048576 && inB off (-1073741824) 1073741824 && decide (lowF ln sg ≤ low) && decide (low ≤ high) && decide (high ≤ highF ln sg)
theorem inB_iff {x a b : Int} : inB x a b = true ↔ a ≤ x ∧ x ≤ b := by simp [inB]
theorem inB_not {x a b : Int} (h : inB x a b = false) : x < a ∨ b < x := by simp [inB] at h; omega
theorem name_step {s : ByteArray} {i : Int} (hq : ∀ j, j < i.toNat → partB (byteAt s j) = true) (h0 : 0 ≤ i) (hp : partB (byteAt s i.toNat) = true) : ∀ j, j < (i + 1).toNat → partB (byteAt s j) = true := by
  intro j hj
  by_cases e : j = i.toNat
  · subst e; exact hp
  · exact hq j (by omega)
theorem sigB_facts {nm : ByteArray} {st ln : Int} {mo sg : Bool} {num off den low high : Int} (h : sigB nm st ln mo sg num off den low high = true) : (1 ≤ ln ∧ ln ≤ 32) ∧ (0 ≤ st ∧ st ≤ 63) ∧ lowF ln sg ≤ low ∧ low ≤ high ∧ high ≤ highF ln sg := by
  simp [sigB, inB] at h; omega
def nextB (m : Bool) (b : Int) : Int := if m then (if b % 8 = 0 then b + 15 else b - 1) else b + 1
def iterB (m : Bool) (b : Int) : Nat → Int
  | 0 => b
  | n + 1 => nextB m (iterB m b n)
def seqF (m : Bool) (b : Int) (n : Nat) : List Int := (List.range n).map (iterB m b)
theorem seqF_snoc {m : Bool} {b0 b : Int} {i : Int} (h0 : 0 ≤ i) (hb : b = iterB m b0 i.toNat) : seqF m b0 (i + 1).toNat = seqF m b0 i.toNat ++ [b] := by
  rw [show (i + 1).toNat = i.toNat + 1 by omega, hb]; unfold seqF; rw [List.range_succ, List.map_append]; rfl
theorem iterB_next {m : Bool} {b0 b b' : Int} {i : Int} (h0 : 0 ≤ i) (hb : b = iterB m b0 i.toNat) (h : b' = nextB m b) : b' = iterB m b0 (i + 1).toNat := by
  rw [show (i + 1).toNat = i.toNat + 1 by omega, h, hb]; rfl
theorem seqF_length (m : Bool) (b : Int) (n : Nat) : (seqF m b n).length = n := by simp [seqF]
def bitsF (nm : ByteArray) (st ln : Int) (mo sg : Bool) (num off den low high : Int) : List Int :=
  if sigB nm st ln mo sg num off den low high then (if mo then (seqF true st ln.toNat).reverse else seqF false st ln.toNat) else []
/-- the first and the last i elements have changed places -/
def revPart (l : List Int) (i : Nat) : List Int := (List.range l.length).map fun k => if k < i ∨ l.length - 1 - k < i then l.getD (l.length - 1 - k) 0 else l.getD k 0
theorem revPart_length (l : List Int) (i : Nat) : (revPart l i).length = l.length := by simp [revPart]
theorem revPart_getD (l : List Int) (i k : Nat) (h : k < l.length) : (revPart l i).getD k 0 = if k < i ∨ l.length - 1 - k < i then l.getD (l.length - 1 - k) 0 else l.getD k 0 := by
  simp [revPart, List.getD, h]
theorem list_ext_getD {l m : List Int} (h : l.length = m.length) (h2 : ∀ k, k < l.length → l.getD k 0 = m.getD k 0) : l = m := by
  apply List.ext_getElem h
  intro k h3 h4
  have := h2 k h3
  simpa [List.getD, h3, h4] using this
theorem getD_set {l : List Int} (i k : Nat) (x : Int) (hi : i < l.length) : (l.set i x).getD k 0 = if k = i then x else l.getD k 0 := by
  simp only [List.getD, List.getElem?_set]
  by_cases e : i = k
  · subst e; simp [hi]
  · rw [if_neg e, if_neg (fun h => e h.symm)]
theorem revPart_start (l : List Int) : revPart l 0 = l := by
  refine list_ext_getD (revPart_length l 0) fun k hk => ?_
  rw [revPart_length] at hk
  rw [revPart_getD l 0 k hk, if_neg (by omega)]
theorem revPart_step {l : List Int} {i j : Nat} (hij : i < j) (hs : i + j + 1 = l.length) : ((revPart l i).set i ((revPart l i).getD j 0)).set j ((revPart l i).getD i 0) = revPart l (i + 1) := by
  refine list_ext_getD (by simp [revPart_length]) fun k hk => ?_
  simp only [List.length_set, revPart_length] at hk
  rw [getD_set _ _ _ (by simp [revPart_length]; omega), getD_set _ _ _ (by rw [revPart_length]; omega), revPart_getD l i k hk, revPart_getD l i i (by omega), revPart_getD l i j (by omega), revPart_getD l (i + 1) k hk]
  rw [if_neg (show ¬ (i < i ∨ l.length - 1 - i < i) by omega), if_neg (show ¬ (j < i ∨ l.length - 1 - j < i) by omega)]
  by_cases e : k = j
  · subst e; rw [if_pos rfl, if_pos (by omega), show l.length - 1 - k = i by omega]
  rw [if_neg e]
  by_cases e2 : k = i
  · subst e2; rw [if_pos rfl, if_pos (by omega), show l.length - 1 - k = j by omega]
  rw [if_neg e2]
  by_cases e3 : k < i ∨ l.length - 1 - k < i
  · rw [if_pos e3, if_pos (by omega)]
  · rw [if_neg e3, if_neg (by omega)]
theorem revPart_end {l : List Int} {i j : Int} (h : ¬ i < j) (hs : i + j + 1 = (l.length : Int)) (h0 : 0 ≤ i) : revPart l i.toNat = l.reverse := by
  refine list_ext_getD (by simp [revPart_length]) fun k hk => ?_
  rw [revPart_length] at hk
  rw [revPart_getD l _ k hk]
  have hr : l.reverse.getD k 0 = l.getD (l.length - 1 - k) 0 := by
    simp only [List.getD, List.getElem?_reverse hk]
  rw [hr]
  split
  · rfl
  · rw [show l.length - 1 - k = k by omega]
theorem revPart_next {l ls : List Int} {i j : Int} (h0 : 0 ≤ i) (h : i < j) (hs : i + j + 1 = (l.length : Int)) (hl : ls = revPart l i.toNat) : (ls.set i.toNat (ls.getD j.toNat 0)).set j.toNat (ls.getD i.toNat 0) = revPart l (i + 1).toNat := by
  rw [hl, show (i + 1).toNat = i.toNat + 1 by omega]; exact revPart_step (by omega) (by omega)
theorem beq_no {l m : List Int} {n k : Nat} (h : l.length = n) (h2 : m.length = k) (hne : (n : Int) ≠ k) : (l == m) = false := by
  rw [beq_eq_false_iff_ne]; intro e; rw [e] at h; omega
theorem beq_at {l m : List Int} {i : Nat} (h : l.getD i 0 ≠ m.getD i 0) : (l == m) = false := by
  rw [beq_eq_false_iff_ne]; intro e; rw [e] at h; exact h rfl
theorem beq_all {l m : List Int} (h : l.length = m.length) (h2 : ∀ j, j < l.length → l.getD j 0 = m.getD j 0) : (l == m) = true := by rw [beq_iff_eq]; exact list_ext_getD h h2

theorem hb84 : HasBody Tryd.prog 84 := fun _ _ => by kernel_rfl
def K84_0 := adv 9 [] (bodyOf Tryd.f84)
def K84_1 := adv 4 [] K84_0
def K84_2 := adv 9 [] K84_1
def K84_3 := adv 3 [] K84_1
def K84_4 := adv 6 [] K84_3
def K84_5 := adv 6 [] K84_3
def K84_6 := adv 7 [] K84_0
def K84_7 := adv 6 [] K84_6
def K84_8 := adv 6 [] K84_6
set_option maxRecDepth 20000 in
set_option maxHeartbeats 20000000 in
theorem letter_any (c : Int) (w : World) : Ret Tryd.prog 84 #[.int .u8 c] w (fun v w' => v = .bool (letterB c) ∧ Sep w [] w') := by
 have S0 := Sep.refl w
 refine Ret.named fun R hR => ?_
 refine Ret.of_J (N := 17) [(0, .int .u8 c)] Tryd.func84 rfl rfl (Nat.le_of_ble_eq_true (by kernel_rfl)) (by kernel_rfl) ?_
 refine J.run 9 K84_0 [(5, .bool (decide (c ≥ 65))), (0, .int .u8 c)] w (by kernel_rfl) ?_
 by_cases fk1 : c ≥ 65
 rotate_left
 ·skip
  refine J.head (.bool false) (congrArg Value.bool (decide_eq_false fk1)) ?_
  refine J.run 7 K84_6 [(12, .bool (decide (c ≥ 97))), (9, .bool false), (0, .int .u8 c)] w (by kernel_rfl) ?_
  by_cases fk4 : c ≥ 97
  rotate_left
  ·skip
   refine J.head (.bool false) (congrArg Value.bool (decide_eq_false fk4)) ?_
   refine J.run 6 K84_8 [(2, .bool false)] w (by kernel_rfl) ?_
   refine J.ret Tryd.f84 [.bool false] Tryd.func84 ⟨by kernel_rfl, trivial⟩ ?_
   refine hR _ _ ?_
   exact ⟨congrArg Value.bool (by unfold letterB; first | omega | (simp; done) | (simp; omega) | (simp_all; done) | (simp_all; omega)), S0.nil⟩
  refine J.head (.bool true) (congrArg Value.bool (decide_eq_true fk4)) ?_
  refine J.run 6 K84_7 [(2, .bool (decide (c ≤ 122)))] w (by kernel_rfl) ?_
  refine J.ret Tryd.f84 [.bool (decide (c ≤ 122))] Tryd.func84 ⟨by kernel_rfl, trivial⟩ ?_
  refine hR _ _ ?_
  exact ⟨congrArg Value.bool (by unfold letterB; first | omega | (simp; done) | (simp; omega) | (simp_all; done) | (simp_all; omega)), S0.nil⟩
 refine J.head (.bool true) (congrArg Value.bool (decide_eq_true fk1)) ?_
 refine J.run 4 K84_1 [(9, .bool (decide (c ≤ 90))), (0, .int .u8 c)] w (by kernel_rfl) ?_
 by_cases fk2 : c ≤ 90
 ·skip
  refine J.head (.bool true) (congrArg Value.bool (decide_eq_true fk2)) ?_
  refine J.run 9 K84_2 [(2, .bool true)] w (by kernel_rfl) ?_
  refine J.ret Tryd.f84 [.bool true] Tryd.func84 ⟨by kernel_rfl, trivial⟩ ?_
  refine hR _ _ ?_
  exact ⟨congrArg Value.bool (by unfold letterB; first | omega | (simp; done) | (simp; omega) | (simp_all; done) | (simp_all; omega)), S0.nil⟩
 refine J.head (.bool false) (congrArg Value.bool (decide_eq_false fk2)) ?_
 refine J.run 3 K84_3 [(12, .bool (decide (c ≥ 97))), (9, .bool false), (0, .int .u8 c)] w (by kernel_rfl) ?_
 by_cases fk3 : c ≥ 97
 rotate_left
 ·skip
  refine J.head (.bool false) (congrArg Value.bool (decide_eq_false fk3)) ?_
  refine J.run 6 K84_5 [(2, .bool false)] w (by kernel_rfl) ?_
  refine J.ret Tryd.f84 [.bool false] Tryd.func84 ⟨by kernel_rfl, trivial⟩ ?_
  refine hR _ _ ?_
  exact ⟨congrArg Value.bool (by unfold letterB; first | omega | (simp; done) | (simp; omega) | (simp_all; done) | (simp_all; omega)), S0.nil⟩
 refine J.head (.bool true) (congrArg Value.bool (decide_eq_true fk3)) ?_
 refine J.run 6 K84_4 [(2, .bool (decide (c ≤ 122)))] w (by kernel_rfl) ?_
 refine J.ret Tryd.f84 [.bool (decide (c ≤ 122))] Tryd.func84 ⟨by kernel_rfl, trivial⟩ ?_
 refine hR _ _ ?_
 exact ⟨congrArg Value.bool (by unfold letterB; first | omega | (simp; done) | (simp; omega) | (simp_all; done) | (simp_all; omega)), S0.nil⟩

theorem hb62 : HasBody Tryd.prog 62 := fun _ _ => by kernel_rfl
def K62_0 := adv 10 [] (bodyOf Tryd.f62)
def K62_1 := adv 6 [] K62_0
def K62_2 := adv 6 [] K62_0
set_option maxRecDepth 20000 in
set_option maxHeartbeats 20000000 in
theorem in_any (x a b : Int) (w : World) : Ret Tryd.prog 62 #[.int .i64 x, .int .i64 a, .int .i64 b] w (fun v w' => v = .bool (inB x a b) ∧ Sep w [] w') := by
 have S0 := Sep.refl w
 refine Ret.named fun R hR => ?_
 refine Ret.of_J (N := 15) [(0, .int .i64 x), (1, .int .i64 a), (2, .int .i64 b)] Tryd.func62 rfl rfl (Nat.le_of_ble_eq_true (by kernel_rfl)) (by kernel_rfl) ?_
 refine J.run 10 K62_0 [(10, .bool (decide (x ≥ a))), (0, .int .i64 x), (2, .int .i64 b)] w (by kernel_rfl) ?_
 by_cases fk1 : x ≥ a
 rotate_left
 ·skip
  refine J.head (.bool false) (congrArg Value.bool (decide_eq_false fk1)) ?_
  refine J.run 6 K62_2 [(6, .bool false)] w (by kernel_rfl) ?_
  refine J.ret Tryd.f62 [.bool false] Tryd.func62 ⟨by kernel_rfl, trivial⟩ ?_
  refine hR _ _ ?_
  exact ⟨congrArg Value.bool (by unfold inB; first | omega | (simp; done) | (simp; omega) | (simp_all; done) | (simp_all; omega)), S0.nil⟩
 refine J.head (.bool true) (congrArg Value.bool (decide_eq_true fk1)) ?_
 refine J.run 6 K62_1 [(6, .bool (decide (x ≤ b)))] w (by kernel_rfl) ?_
 refine J.ret Tryd.f62 [.bool (decide (x ≤ b))] Tryd.func62 ⟨by kernel_rfl, trivial⟩ ?_
 refine hR _ _ ?_
 exact ⟨congrArg Value.bool (by unfold inB; first | omega | (simp; done) | (simp; omega) | (simp_all; done) | (simp_all; omega)), S0.nil⟩

theorem hb64 : HasBody Tryd.prog 64 := fun _ _ => by kernel_rfl
def K64_0 := adv 9 [] (bodyOf Tryd.f64)
def K64_1 := adv 2 [] (popK K64_0)
def K64_2 := adv 1 [] K64_1
def K64_3 := adv 3 [] (popK (popK K64_2))
def K64_4 := adv 11 [false] K64_3
def K64_5 := adv 5 [] K64_4
def K64_6 := adv 13 [true] K64_5
def K64_7 := adv 5 [] (popK K64_6)
def K64_8 := adv 2 [] (popK K64_7)
def K64_9 := adv 17 [false] K64_8
def K64_10 := adv 3 [] K64_8
def K64_11 := adv 9 [] K64_10
def K64_12 := adv 5 [false] K64_11
def K64_13 := adv 5 [true] K64_11
def K64_14 := adv 5 [] K64_10
def K64_15 := adv 4 [] K64_14
def K64_16 := adv 5 [false] K64_15
def K64_17 := adv 5 [true] K64_15
def K64_18 := adv 9 [false] K64_14
def K64_19 := adv 6 [false] K64_5
def K64_20 := adv 5 [true] K64_3
def K64_21 := adv 11 [true] K64_1
set_option maxRecDepth 20000 in
set_option maxHeartbeats 20000000 in
theorem name_any (s : ByteArray) (w : World) (hs : s.size ≤ 9223372036854775807) : Ret Tryd.prog 64 #[.string s] w (fun v w' => v = .bool (nameB s) ∧ Sep w [] w') := by
 have S0 := Sep.refl w
 refine Ret.named fun R hR => ?_
 refine Ret.of_J (N := 39) [(0, .string s)] Tryd.func64 rfl rfl (Nat.le_of_ble_eq_true (by kernel_rfl)) (by kernel_rfl) ?_
 refine J.run 9 K64_0 [(6, .int .i64 (s.size : Int)), (0, .string s)] w (by kernel_rfl) ?_
 refine J.callF 7 62 #[.int .i64 (s.size : Int), .int .i64 1, .int .i64 24] hb62 (by kernel_rfl) (in_any (s.size : Int) 1 24 _) ?_
 rintro _ w1 ⟨rfl, T1⟩
 have S1 : Sep w [] w1 := S0.trans T1
 clear T1
 refine J.run 2 K64_1 [(9, .bool (!(inB (s.size : Int) 1 24))), (0, .string s)] w1 (by kernel_rfl) ?_
 rcases Bool.eq_false_or_eq_true (inB (s.size : Int) 1 24) with fk1 | fk1
 rotate_left
 ·skip
  refine J.head (.bool true) (congrArg Value.bool (by rw [fk1]; rfl)) ?_
  have fb2 := inB_not fk1
  refine J.run 11 K64_21 [(2, .bool false)] w1 (by kernel_rfl) ?_
  refine J.ret Tryd.f64 [.bool false] Tryd.func64 ⟨by kernel_rfl, trivial⟩ ?_
  refine hR _ _ ?_
  exact ⟨congrArg Value.bool (name_no (by first | omega | (right; right; assumption))).symm, S1.nil⟩
 refine J.head (.bool false) (congrArg Value.bool (by rw [fk1]; rfl)) ?_
 have fb1 := inB_iff.1 fk1
 refine J.run 1 K64_2 [(10, .string s), (9, .bool false), (0, .string s)] w1 (by kernel_rfl) ?_
 have := byteAt_bounds s 0
 refine J.ok (OK.byte 11 9 s (0 : Int) (byteAt s 0) (by kernel_rfl) (by kernel_rfl) (by omega) (by omega) (rfl)) ?_
 refine J.callF 12 84 #[.int .u8 (byteAt s 0)] hb84 (by kernel_rfl) (letter_any (byteAt s 0) _) ?_
 rintro _ w2 ⟨rfl, T2⟩
 have S2 : Sep w [] w2 := S1.trans T2
 clear T2 S1
 refine J.run 3 K64_3 [(14, .bool (!(letterB (byteAt s 0)))), (0, .string s)] w2 (by kernel_rfl) ?_
 rcases Bool.eq_false_or_eq_true (letterB (byteAt s 0)) with fk2 | fk2
 rotate_left
 ·skip
  refine J.head (.bool true) (congrArg Value.bool (by rw [fk2]; rfl)) ?_
  refine J.run 5 K64_20 [(2, .bool false)] w2 (by kernel_rfl) ?_
  refine J.ret Tryd.f64 [.bool false] Tryd.func64 ⟨by kernel_rfl, trivial⟩ ?_
  refine hR _ _ ?_
  exact ⟨congrArg Value.bool (name_no (by first | omega | (right; right; assumption))).symm, S2.nil⟩
 refine J.head (.bool false) (congrArg Value.bool (by rw [fk2]; rfl)) ?_
 refine J.run 11 K64_4 [(17, .int .i64 0), (16, .int .i64 (s.size : Int)), (0, .string s)] w2 (by kernel_rfl) ?_
 have L64_1 : ∀ (mm_ : Nat) (i : Int) (w3 : World), (0 ≤ i) → (i ≤ (s.size : Int)) → (∀ j, j < (i).toNat → partB (byteAt s j) = true) → Sep w [] w3 → ((s.size : Int) - i).toNat = mm_ → J Tryd.prog 64 39 R K64_4 [(17, .int .i64 i), (16, .int .i64 (s.size : Int)), (0, .string s)] w3 := by
  intro mm1
  induction mm1 using Nat.strongRecOn with
  | _ mm1 ih1 =>
  intro i w3 h0 h1 hq S3 hm1
  have hlet : letterB (byteAt s 0) = true := fk2
  refine J.run 5 K64_5 [(18, .bool (decide (i < (s.size : Int)))), (17, .int .i64 i), (16, .int .i64 (s.size : Int)), (0, .string s)] w3 (by kernel_rfl) ?_
  by_cases fk3 : i < (s.size : Int)
  rotate_left
  ·skip
   refine J.head (.bool false) (congrArg Value.bool (decide_eq_false fk3)) ?_
   refine J.run 6 K64_19 [(2, .bool true)] w3 (by kernel_rfl) ?_
   refine J.ret Tryd.f64 [.bool true] Tryd.func64 ⟨by kernel_rfl, trivial⟩ ?_
   refine hR _ _ ?_
   exact ⟨congrArg Value.bool (name_yes (by omega) (by omega) hlet (fun j hj => hq j (by omega))).symm, S3.nil⟩
  refine J.head (.bool true) (congrArg Value.bool (decide_eq_true fk3)) ?_
  refine J.run 13 K64_6 [(21, .int .i64 i), (20, .string s), (17, .int .i64 i), (16, .int .i64 (s.size : Int)), (0, .string s)] w3 (by kernel_rfl) ?_
  have := byteAt_bounds s (i).toNat
  refine J.ok (OK.byte 22 9 s i (byteAt s (i).toNat) (by kernel_rfl) (by kernel_rfl) (by omega) (by omega) (rfl)) ?_
  refine J.run 5 K64_7 [(23, .int .u8 (byteAt s (i).toNat)), (4, .int .u8 (byteAt s (i).toNat)), (17, .int .i64 i), (16, .int .i64 (s.size : Int)), (0, .string s)] w3 (by kernel_rfl) ?_
  refine J.callF 24 84 #[.int .u8 (byteAt s (i).toNat)] hb84 (by kernel_rfl) (letter_any (byteAt s (i).toNat) _) ?_
  rintro _ w4 ⟨rfl, T3⟩
  have S4 : Sep w [] w4 := S3.trans T3
  clear T3 S3
  refine J.run 2 K64_8 [(26, .bool (!(letterB (byteAt s (i).toNat)))), (4, .int .u8 (byteAt s (i).toNat)), (17, .int .i64 i), (16, .int .i64 (s.size : Int)), (0, .string s)] w4 (by kernel_rfl) ?_
  rcases Bool.eq_false_or_eq_true (letterB (byteAt s (i).toNat)) with fk4 | fk4
  ·skip
   refine J.head (.bool false) (congrArg Value.bool (by rw [fk4]; rfl)) ?_
   refine J.run 17 K64_9 [(38, .int .i64 (IntKind.wrap .i64 (i + 1))), (16, .int .i64 (s.size : Int)), (0, .string s)] w4 (by kernel_rfl) ?_
   refine J.head (.int .i64 (i + 1)) (congrArg (Value.int .i64) (IntWalk.i64_in _ (by omega))) ?_
   refine J.run 3 K64_4 [(17, .int .i64 (i + 1)), (16, .int .i64 (s.size : Int)), (0, .string s)] w4 (by kernel_rfl) ?_
   refine J.run 0 K64_4 [(17, .int .i64 (i + 1)), (16, .int .i64 (s.size : Int)), (0, .string s)] w4 (by kernel_rfl) ?_
   exact ih1 _ (show ((s.size : Int) - (i + 1)).toNat < mm1 from by omega) (i + 1) w4 (by omega) (by omega) (name_step hq h0 (by first | (simp [partB, fk1, fk2, fk3, fk4]; done) | (simp [partB, fk1, fk2, fk3, fk4]; omega) | (simp [partB, digitB, fk1, fk2, fk3, fk4]; done) | (simp [partB, digitB, fk1, fk2, fk3, fk4]; omega))) S4 rfl
  refine J.head (.bool true) (congrArg Value.bool (by rw [fk4]; rfl)) ?_
  refine J.run 3 K64_10 [(29, .bool (decide ((byteAt s (i).toNat) < 48))), (26, .bool true), (4, .int .u8 (byteAt s (i).toNat)), (17, .int .i64 i), (16, .int .i64 (s.size : Int)), (0, .string s)] w4 (by kernel_rfl) ?_
  by_cases fk5 : (byteAt s (i).toNat) < 48
  ·skip
   refine J.head (.bool true) (congrArg Value.bool (decide_eq_true fk5)) ?_
   refine J.run 9 K64_11 [(37, .bool ((byteAt s (i).toNat) != 95)), (17, .int .i64 i), (16, .int .i64 (s.size : Int)), (0, .string s)] w4 (by kernel_rfl) ?_
   by_cases fk6 : (byteAt s (i).toNat) = 95
   rotate_left
   ·skip
    refine J.head (.bool true) (congrArg Value.bool (bne_iff_ne.2 fk6)) ?_
    refine J.run 5 K64_13 [(2, .bool false)] w4 (by kernel_rfl) ?_
    refine J.ret Tryd.f64 [.bool false] Tryd.func64 ⟨by kernel_rfl, trivial⟩ ?_
    refine hR _ _ ?_
    exact ⟨congrArg Value.bool (name_bad h0 (by omega) (by first | (simp [partB, fk1, fk2, fk3, fk4, fk5, fk6]; done) | (simp [partB, fk1, fk2, fk3, fk4, fk5, fk6]; omega) | (simp [partB, digitB, fk1, fk2, fk3, fk4, fk5, fk6]; done) | (simp [partB, digitB, fk1, fk2, fk3, fk4, fk5, fk6]; omega))).symm, S4.nil⟩
   refine J.head (.bool false) (congrArg Value.bool (bne_eq_false_iff_eq.2 fk6)) ?_
   refine J.run 5 K64_12 [(38, .int .i64 (IntKind.wrap .i64 (i + 1))), (16, .int .i64 (s.size : Int)), (0, .string s)] w4 (by kernel_rfl) ?_
   refine J.head (.int .i64 (i + 1)) (congrArg (Value.int .i64) (IntWalk.i64_in _ (by omega))) ?_
   refine J.run 3 K64_4 [(17, .int .i64 (i + 1)), (16, .int .i64 (s.size : Int)), (0, .string s)] w4 (by kernel_rfl) ?_
   refine J.run 0 K64_4 [(17, .int .i64 (i + 1)), (16, .int .i64 (s.size : Int)), (0, .string s)] w4 (by kernel_rfl) ?_
   exact ih1 _ (show ((s.size : Int) - (i + 1)).toNat < mm1 from by omega) (i + 1) w4 (by omega) (by omega) (name_step hq h0 (by first | (simp [partB, fk1, fk2, fk3, fk4, fk5, fk6]; done) | (simp [partB, fk1, fk2, fk3, fk4, fk5, fk6]; omega) | (simp [partB, digitB, fk1, fk2, fk3, fk4, fk5, fk6]; done) | (simp [partB, digitB, fk1, fk2, fk3, fk4, fk5, fk6]; omega))) S4 rfl
  refine J.head (.bool false) (congrArg Value.bool (decide_eq_false fk5)) ?_
  refine J.run 5 K64_14 [(34, .bool (decide ((byteAt s (i).toNat) > 57))), (4, .int .u8 (byteAt s (i).toNat)), (17, .int .i64 i), (16, .int .i64 (s.size : Int)), (0, .string s)] w4 (by kernel_rfl) ?_
  by_cases fk7 : (byteAt s (i).toNat) > 57
  rotate_left
  ·skip
   refine J.head (.bool false) (congrArg Value.bool (decide_eq_false fk7)) ?_
   refine J.run 9 K64_18 [(38, .int .i64 (IntKind.wrap .i64 (i + 1))), (16, .int .i64 (s.size : Int)), (0, .string s)] w4 (by kernel_rfl) ?_
   refine J.head (.int .i64 (i + 1)) (congrArg (Value.int .i64) (IntWalk.i64_in _ (by omega))) ?_
   refine J.run 3 K64_4 [(17, .int .i64 (i + 1)), (16, .int .i64 (s.size : Int)), (0, .string s)] w4 (by kernel_rfl) ?_
   refine J.run 0 K64_4 [(17, .int .i64 (i + 1)), (16, .int .i64 (s.size : Int)), (0, .string s)] w4 (by kernel_rfl) ?_
   exact ih1 _ (show ((s.size : Int) - (i + 1)).toNat < mm1 from by omega) (i + 1) w4 (by omega) (by omega) (name_step hq h0 (by first | (simp [partB, fk1, fk2, fk3, fk4, fk5, fk7]; done) | (simp [partB, fk1, fk2, fk3, fk4, fk5, fk7]; omega) | (simp [partB, digitB, fk1, fk2, fk3, fk4, fk5, fk7]; done) | (simp [partB, digitB, fk1, fk2, fk3, fk4, fk5, fk7]; omega))) S4 rfl
  refine J.head (.bool true) (congrArg Value.bool (decide_eq_true fk7)) ?_
  refine J.run 4 K64_15 [(37, .bool ((byteAt s (i).toNat) != 95)), (17, .int .i64 i), (16, .int .i64 (s.size : Int)), (0, .string s)] w4 (by kernel_rfl) ?_
  by_cases fk8 : (byteAt s (i).toNat) = 95
  rotate_left
  ·skip
   refine J.head (.bool true) (congrArg Value.bool (bne_iff_ne.2 fk8)) ?_
   refine J.run 5 K64_17 [(2, .bool false)] w4 (by kernel_rfl) ?_
   refine J.ret Tryd.f64 [.bool false] Tryd.func64 ⟨by kernel_rfl, trivial⟩ ?_
   refine hR _ _ ?_
   exact ⟨congrArg Value.bool (name_bad h0 (by omega) (by first | (simp [partB, fk1, fk2, fk3, fk4, fk5, fk7, fk8]; done) | (simp [partB, fk1, fk2, fk3, fk4, fk5, fk7, fk8]; omega) | (simp [partB, digitB, fk1, fk2, fk3, fk4, fk5, fk7, fk8]; done) | (simp [partB, digitB, fk1, fk2, fk3, fk4, fk5, fk7, fk8]; omega))).symm, S4.nil⟩
  refine J.head (.bool false) (congrArg Value.bool (bne_eq_false_iff_eq.2 fk8)) ?_
  refine J.run 5 K64_16 [(38, .int .i64 (IntKind.wrap .i64 (i + 1))), (16, .int .i64 (s.size : Int)), (0, .string s)] w4 (by kernel_rfl) ?_
  refine J.head (.int .i64 (i + 1)) (congrArg (Value.int .i64) (IntWalk.i64_in _ (by omega))) ?_
  refine J.run 3 K64_4 [(17, .int .i64 (i + 1)), (16, .int .i64 (s.size : Int)), (0, .string s)] w4 (by kernel_rfl) ?_
  refine J.run 0 K64_4 [(17, .int .i64 (i + 1)), (16, .int .i64 (s.size : Int)), (0, .string s)] w4 (by kernel_rfl) ?_
  exact ih1 _ (show ((s.size : Int) - (i + 1)).toNat < mm1 from by omega) (i + 1) w4 (by omega) (by omega) (name_step hq h0 (by first | (simp [partB, fk1, fk2, fk3, fk4, fk5, fk7, fk8]; done) | (simp [partB, fk1, fk2, fk3, fk4, fk5, fk7, fk8]; omega) | (simp [partB, digitB, fk1, fk2, fk3, fk4, fk5, fk7, fk8]; done) | (simp [partB, digitB, fk1, fk2, fk3, fk4, fk5, fk7, fk8]; omega))) S4 rfl
 exact L64_1 _ 0 w2 (by omega) (by omega) (by intro j hj; simp at hj) S2 rfl

theorem lim_bounds {ln : Int} (sg : Bool) (h : 1 ≤ ln ∧ ln ≤ 32) : -2147483648 ≤ lowF ln sg ∧ lowF ln sg ≤ 0 ∧ 0 ≤ highF ln sg ∧ highF ln sg ≤ 4294967295 := by
  have h1 := pow32 (n := (ln - 1).toNat) (by omega)
  have h2 := pow32 (n := ln.toNat) (by omega)
  have h3 : (2 : Int) ^ (ln - 1).toNat ≤ 2 ^ 31 := by exact_mod_cast Nat.pow_le_pow_right (by omega) (show (ln - 1).toNat ≤ 31 by omega)
  cases sg <;> simp only [lowF, highF, if_true, if_false, Bool.false_eq_true] <;> omega
theorem hb79 : HasBody Tryd.prog 79 := fun _ _ => by kernel_rfl
def K79_0 := adv 2 [] (bodyOf Tryd.f79)
def K79_1 := adv 7 [] (popK K79_0)
def K79_2 := adv 1 [] (popK K79_1)
def K79_3 := adv 2 [true] K79_2
def K79_4 := adv 3 [false] K79_2
set_option maxRecDepth 20000 in
set_option maxHeartbeats 20000000 in
theorem lims_any (nm : ByteArray) (st ln : Int) (mo sg : Bool) (num off den low high : Int) (w : World) (hln : 1 ≤ ln ∧ ln ≤ 32) : Ret Tryd.prog 79 #[.agg #[.string nm, .int .i64 st, .int .i64 ln, .bool mo, .bool sg, .int .i64 num, .int .i64 off, .int .i64 den, .int .i64 low, .int .i64 high]] w (fun v w' => v = .tuple #[.int .i64 (lowF ln sg), .int .i64 (highF ln sg)] ∧ Sep w [] w') := by
 have S0 := Sep.refl w
 refine Ret.named fun R hR => ?_
 refine Ret.of_J (N := 20) [(0, .agg #[.string nm, .int .i64 st, .int .i64 ln, .bool mo, .bool sg, .int .i64 num, .int .i64 off, .int .i64 den, .int .i64 low, .int .i64 high])] Tryd.func79 rfl rfl (Nat.le_of_ble_eq_true (by kernel_rfl)) (by kernel_rfl) ?_
 refine J.run 2 K79_0 [(0, .agg #[.string nm, .int .i64 st, .int .i64 ln, .bool mo, .bool sg, .int .i64 num, .int .i64 off, .int .i64 den, .int .i64 low, .int .i64 high])] w (by kernel_rfl) ?_
 refine J.new S0 1 [.string nm, .int .i64 st, .int .i64 ln, .bool mo, .bool sg, .int .i64 num, .int .i64 off, .int .i64 den, .int .i64 low, .int .i64 high] 57 (by kernel_rfl) ?_
 intro b1 w1 S1
 refine J.run 7 K79_1 [(4, .pointer (some ⟨b1, 4, none⟩)), (1, .pointer (some ⟨b1, 0, none⟩))] w1 (by kernel_rfl) ?_
 refine J.ok (OK.ldBox S1 0 5 4 4 (.bool sg) (by kernel_rfl) rfl (by kernel_rfl)) ?_
 refine J.run 1 K79_2 [(5, .bool sg), (1, .pointer (some ⟨b1, 0, none⟩))] w1 (by kernel_rfl) ?_
 rcases Bool.eq_false_or_eq_true sg with fk1 | fk1
 rotate_left
 ·skip
  refine J.head (.bool false) (congrArg Value.bool fk1) ?_
  refine J.run 3 K79_4 [(1, .pointer (some ⟨b1, 0, none⟩))] w1 (by kernel_rfl) ?_
  refine J.drawStill S1 6 Tryd.mixed (by kernel_rfl) (by kernel_rfl) (by kernel_rfl) ?_
  intro w3 S3
  refine SL.ok (by decide) (OK.run 16 (.pointer (some ⟨b1, 2, none⟩)) (by kernel_rfl)) ?_
  refine SL.ok (by decide) (OK.ldBox S3 0 17 3 2 (.int .i64 ln) (by kernel_rfl) rfl (by kernel_rfl)) ?_
  have := pow32 (n := (ln).toNat) (by omega)
  refine SL.ok (by decide) (OK.shl 18 .i64 1 ln (2 ^ (ln).toNat) (by kernel_rfl) (by omega) (shl_one (by omega) (by omega))) ?_
  refine SL.ok (by decide) (OK.run 19 (.int .i64 (IntKind.wrap .i64 ((2 ^ (ln).toNat) - 1))) (by kernel_rfl)) ?_
  refine SL.head (.int .i64 ((2 ^ (ln).toNat) - 1)) (congrArg (Value.int .i64) (IntWalk.i64_in _ (by omega))) ?_
  refine SL.ok (by decide) (OK.run 2 (.int .i64 0) (by kernel_rfl)) ?_
  refine SL.ok (by decide) (OK.run 3 (.int .i64 ((2 ^ (ln).toNat) - 1)) (by kernel_rfl)) ?_
  refine SL.done ?_
  refine TL.done (by kernel_rfl) ?_
  refine J.run 0 (rRest K79_4) [(3, .int .i64 ((2 ^ (ln).toNat) - 1)), (2, .int .i64 0)] w3 (by kernel_rfl) ?_
  refine J.ret Tryd.f79 [.int .i64 0, .int .i64 ((2 ^ (ln).toNat) - 1)] Tryd.func79 ⟨by kernel_rfl, by kernel_rfl, trivial⟩ ?_
  refine hR _ _ ?_
  exact ⟨by rw [tup_two]; simp [lowF, highF, fk1], S3.nil⟩
 refine J.head (.bool true) (congrArg Value.bool fk1) ?_
 refine J.run 2 K79_3 [(1, .pointer (some ⟨b1, 0, none⟩))] w1 (by kernel_rfl) ?_
 refine J.drawStill S1 12 Tryd.mixed (by kernel_rfl) (by kernel_rfl) (by kernel_rfl) ?_
 intro w2 S2
 refine SL.ok (by decide) (OK.run 6 (.pointer (some ⟨b1, 2, none⟩)) (by kernel_rfl)) ?_
 refine SL.ok (by decide) (OK.ldBox S2 0 7 3 2 (.int .i64 ln) (by kernel_rfl) rfl (by kernel_rfl)) ?_
 refine SL.ok (by decide) (OK.run 8 (.int .i64 (IntKind.wrap .i64 (ln - 1))) (by kernel_rfl)) ?_
 refine SL.head (.int .i64 (ln - 1)) (congrArg (Value.int .i64) (IntWalk.i64_in _ (by omega))) ?_
 have := pow32 (n := (ln - 1).toNat) (by omega)
 refine SL.ok (by decide) (OK.shl 9 .i64 1 (ln - 1) (2 ^ (ln - 1).toNat) (by kernel_rfl) (by omega) (shl_one (by omega) (by omega))) ?_
 refine SL.ok (by decide) (OK.run 10 (.int .i64 (IntKind.wrap .i64 (0 - (2 ^ (ln - 1).toNat)))) (by kernel_rfl)) ?_
 refine SL.head (.int .i64 (0 - (2 ^ (ln - 1).toNat))) (congrArg (Value.int .i64) (IntWalk.i64_in _ (by omega))) ?_
 refine SL.ok (by decide) (OK.run 11 (.pointer (some ⟨b1, 2, none⟩)) (by kernel_rfl)) ?_
 refine SL.ok (by decide) (OK.ldBox S2 0 12 3 2 (.int .i64 ln) (by kernel_rfl) rfl (by kernel_rfl)) ?_
 refine SL.ok (by decide) (OK.run 13 (.int .i64 (IntKind.wrap .i64 (ln - 1))) (by kernel_rfl)) ?_
 refine SL.head (.int .i64 (ln - 1)) (congrArg (Value.int .i64) (IntWalk.i64_in _ (by omega))) ?_
 have := pow32 (n := (ln - 1).toNat) (by omega)
 refine SL.ok (by decide) (OK.shl 14 .i64 1 (ln - 1) (2 ^ (ln - 1).toNat) (by kernel_rfl) (by omega) (shl_one (by omega) (by omega))) ?_
 refine SL.ok (by decide) (OK.run 15 (.int .i64 (IntKind.wrap .i64 ((2 ^ (ln - 1).toNat) - 1))) (by kernel_rfl)) ?_
 refine SL.head (.int .i64 ((2 ^ (ln - 1).toNat) - 1)) (congrArg (Value.int .i64) (IntWalk.i64_in _ (by omega))) ?_
 refine SL.ok (by decide) (OK.run 2 (.int .i64 (0 - (2 ^ (ln - 1).toNat))) (by kernel_rfl)) ?_
 refine SL.ok (by decide) (OK.run 3 (.int .i64 ((2 ^ (ln - 1).toNat) - 1)) (by kernel_rfl)) ?_
 refine SL.done ?_
 refine TL.done (by kernel_rfl) ?_
 refine J.run 0 (rRest K79_3) [(3, .int .i64 ((2 ^ (ln - 1).toNat) - 1)), (2, .int .i64 (0 - (2 ^ (ln - 1).toNat)))] w2 (by kernel_rfl) ?_
 refine J.ret Tryd.f79 [.int .i64 (0 - (2 ^ (ln - 1).toNat)), .int .i64 ((2 ^ (ln - 1).toNat) - 1)] Tryd.func79 ⟨by kernel_rfl, by kernel_rfl, trivial⟩ ?_
 refine hR _ _ ?_
 exact ⟨by rw [tup_two]; simp [lowF, highF, fk1], S2.nil⟩

theorem hb52 : HasBody Tryd.prog 52 := fun _ _ => by kernel_rfl
def K52_0 := adv 2 [] (bodyOf Tryd.f52)
def K52_1 := adv 6 [] (popK K52_0)
def K52_2 := adv 2 [] (popK (popK K52_1))
def K52_3 := adv 1 [] K52_2
def K52_4 := adv 3 [] (popK (popK K52_3))
def K52_5 := adv 1 [] K52_4
def K52_6 := adv 3 [] (popK (popK K52_5))
def K52_7 := adv 1 [] K52_6
def K52_8 := adv 3 [] (popK (popK K52_7))
def K52_9 := adv 1 [] K52_8
def K52_10 := adv 3 [] (popK (popK K52_9))
def K52_11 := adv 1 [] K52_10
def K52_12 := adv 3 [] (popK (popK K52_11))
def K52_13 := adv 4 [false] K52_12
def K52_14 := adv 10 [] (popK (popK K52_13))
def K52_15 := adv 2 [] (popK K52_14)
def K52_16 := adv 1 [] K52_15
def K52_17 := adv 1 [] (popK K52_16)
def K52_18 := adv 3 [] (popK K52_17)
def K52_19 := adv 1 [] K52_18
def K52_20 := adv 5 [] (popK K52_19)
def K52_21 := adv 7 [] K52_18
def K52_22 := adv 14 [] K52_15
def K52_23 := adv 5 [true] K52_12
def K52_24 := adv 11 [true] K52_10
def K52_25 := adv 17 [true] K52_8
def K52_26 := adv 23 [true] K52_6
def K52_27 := adv 29 [true] K52_4
def K52_28 := adv 35 [true] K52_2
set_option maxRecDepth 20000 in
set_option maxHeartbeats 20000000 in
theorem valid_any (nm : ByteArray) (st ln : Int) (mo sg : Bool) (num off den low high : Int) (w : World) (hnm : nm.size ≤ 9223372036854775807) : Ret Tryd.prog 52 #[.agg #[.string nm, .int .i64 st, .int .i64 ln, .bool mo, .bool sg, .int .i64 num, .int .i64 off, .int .i64 den, .int .i64 low, .int .i64 high]] w (fun v w' => v = .bool (sigB nm st ln mo sg num off den low high) ∧ Sep w [] w') := by
 have S0 := Sep.refl w
 refine Ret.named fun R hR => ?_
 refine Ret.of_J (N := 61) [(0, .agg #[.string nm, .int .i64 st, .int .i64 ln, .bool mo, .bool sg, .int .i64 num, .int .i64 off, .int .i64 den, .int .i64 low, .int .i64 high])] Tryd.func52 rfl rfl (Nat.le_of_ble_eq_true (by kernel_rfl)) (by kernel_rfl) ?_
 refine J.run 2 K52_0 [(0, .agg #[.string nm, .int .i64 st, .int .i64 ln, .bool mo, .bool sg, .int .i64 num, .int .i64 off, .int .i64 den, .int .i64 low, .int .i64 high])] w (by kernel_rfl) ?_
 refine J.new S0 1 [.string nm, .int .i64 st, .int .i64 ln, .bool mo, .bool sg, .int .i64 num, .int .i64 off, .int .i64 den, .int .i64 low, .int .i64 high] 57 (by kernel_rfl) ?_
 intro b1 w1 S1
 refine J.run 6 K52_1 [(5, .pointer (some ⟨b1, 0, none⟩)), (1, .pointer (some ⟨b1, 0, none⟩))] w1 (by kernel_rfl) ?_
 refine J.ok (OK.ldBox S1 0 6 9 0 (.string nm) (by kernel_rfl) rfl (by kernel_rfl)) ?_
 refine J.callF 7 64 #[.string nm] hb64 (by kernel_rfl) (name_any nm _ (by omega)) ?_
 rintro _ w2 ⟨rfl, T1⟩
 have S2 : Sep w [box b1 [.string nm, .int .i64 st, .int .i64 ln, .bool mo, .bool sg, .int .i64 num, .int .i64 off, .int .i64 den, .int .i64 low, .int .i64 high] 57] w2 := S1.trans T1
 clear T1 S1
 refine J.run 2 K52_2 [(9, .bool (!(nameB nm))), (1, .pointer (some ⟨b1, 0, none⟩))] w2 (by kernel_rfl) ?_
 rcases Bool.eq_false_or_eq_true (nameB nm) with fk1 | fk1
 rotate_left
 ·skip
  refine J.head (.bool true) (congrArg Value.bool (by rw [fk1]; rfl)) ?_
  refine J.run 35 K52_28 [(2, .bool false)] w2 (by kernel_rfl) ?_
  refine J.ret Tryd.f52 [.bool false] Tryd.func52 ⟨by kernel_rfl, trivial⟩ ?_
  refine hR _ _ ?_
  exact ⟨congrArg Value.bool (by first | (simp [sigB, fk1]; done) | (simp [sigB, fk1]; omega) | (simp [sigB, inB, fk1]; done) | (simp [sigB, inB, fk1]; omega) | (simp [sigB, inB, fk1]; intros; omega)), S2.nil⟩
 refine J.head (.bool false) (congrArg Value.bool (by rw [fk1]; rfl)) ?_
 refine J.run 1 K52_3 [(10, .pointer (some ⟨b1, 2, none⟩)), (9, .bool false), (1, .pointer (some ⟨b1, 0, none⟩))] w2 (by kernel_rfl) ?_
 refine J.ok (OK.ldBox S2 0 11 3 2 (.int .i64 ln) (by kernel_rfl) rfl (by kernel_rfl)) ?_
 refine J.callF 12 62 #[.int .i64 ln, .int .i64 1, .int .i64 32] hb62 (by kernel_rfl) (in_any ln 1 32 _) ?_
 rintro _ w3 ⟨rfl, T2⟩
 have S3 : Sep w [box b1 [.string nm, .int .i64 st, .int .i64 ln, .bool mo, .bool sg, .int .i64 num, .int .i64 off, .int .i64 den, .int .i64 low, .int .i64 high] 57] w3 := S2.trans T2
 clear T2 S2
 refine J.run 3 K52_4 [(15, .bool (!(inB ln 1 32))), (1, .pointer (some ⟨b1, 0, none⟩))] w3 (by kernel_rfl) ?_
 rcases Bool.eq_false_or_eq_true (inB ln 1 32) with fk2 | fk2
 rotate_left
 ·skip
  refine J.head (.bool true) (congrArg Value.bool (by rw [fk2]; rfl)) ?_
  have fb10 := inB_not fk2
  refine J.run 29 K52_27 [(2, .bool false)] w3 (by kernel_rfl) ?_
  refine J.ret Tryd.f52 [.bool false] Tryd.func52 ⟨by kernel_rfl, trivial⟩ ?_
  refine hR _ _ ?_
  exact ⟨congrArg Value.bool (by first | (simp [sigB, fk1, fk2]; done) | (simp [sigB, fk1, fk2]; omega) | (simp [sigB, inB, fk1, fk2]; done) | (simp [sigB, inB, fk1, fk2]; omega) | (simp [sigB, inB, fk1, fk2]; intros; omega)), S3.nil⟩
 refine J.head (.bool false) (congrArg Value.bool (by rw [fk2]; rfl)) ?_
 have fb1 := inB_iff.1 fk2
 refine J.run 1 K52_5 [(16, .pointer (some ⟨b1, 1, none⟩)), (15, .bool false), (1, .pointer (some ⟨b1, 0, none⟩))] w3 (by kernel_rfl) ?_
 refine J.ok (OK.ldBox S3 0 17 3 1 (.int .i64 st) (by kernel_rfl) rfl (by kernel_rfl)) ?_
 refine J.callF 18 62 #[.int .i64 st, .int .i64 0, .int .i64 63] hb62 (by kernel_rfl) (in_any st 0 63 _) ?_
 rintro _ w4 ⟨rfl, T3⟩
 have S4 : Sep w [box b1 [.string nm, .int .i64 st, .int .i64 ln, .bool mo, .bool sg, .int .i64 num, .int .i64 off, .int .i64 den, .int .i64 low, .int .i64 high] 57] w4 := S3.trans T3
 clear T3 S3
 refine J.run 3 K52_6 [(21, .bool (!(inB st 0 63))), (1, .pointer (some ⟨b1, 0, none⟩))] w4 (by kernel_rfl) ?_
 rcases Bool.eq_false_or_eq_true (inB st 0 63) with fk3 | fk3
 rotate_left
 ·skip
  refine J.head (.bool true) (congrArg Value.bool (by rw [fk3]; rfl)) ?_
  have fb9 := inB_not fk3
  refine J.run 23 K52_26 [(2, .bool false)] w4 (by kernel_rfl) ?_
  refine J.ret Tryd.f52 [.bool false] Tryd.func52 ⟨by kernel_rfl, trivial⟩ ?_
  refine hR _ _ ?_
  exact ⟨congrArg Value.bool (by first | (simp [sigB, fk1, fk2, fk3]; done) | (simp [sigB, fk1, fk2, fk3]; omega) | (simp [sigB, inB, fk1, fk2, fk3]; done) | (simp [sigB, inB, fk1, fk2, fk3]; omega) | (simp [sigB, inB, fk1, fk2, fk3]; intros; omega)), S4.nil⟩
 refine J.head (.bool false) (congrArg Value.bool (by rw [fk3]; rfl)) ?_
 have fb2 := inB_iff.1 fk3
 refine J.run 1 K52_7 [(22, .pointer (some ⟨b1, 5, none⟩)), (21, .bool false), (1, .pointer (some ⟨b1, 0, none⟩))] w4 (by kernel_rfl) ?_
 refine J.ok (OK.ldBox S4 0 23 3 5 (.int .i64 num) (by kernel_rfl) rfl (by kernel_rfl)) ?_
 refine J.callF 24 62 #[.int .i64 num, .int .i64 1, .int .i64 1048576] hb62 (by kernel_rfl) (in_any num 1 1048576 _) ?_
 rintro _ w5 ⟨rfl, T4⟩
 have S5 : Sep w [box b1 [.string nm, .int .i64 st, .int .i64 ln, .bool mo, .bool sg, .int .i64 num, .int .i64 off, .int .i64 den, .int .i64 low, .int .i64 high] 57] w5 := S4.trans T4
 clear T4 S4
 refine J.run 3 K52_8 [(27, .bool (!(inB num 1 1048576))), (1, .pointer (some ⟨b1, 0, none⟩))] w5 (by kernel_rfl) ?_
 rcases Bool.eq_false_or_eq_true (inB num 1 1048576) with fk4 | fk4
 rotate_left
 ·skip
  refine J.head (.bool true) (congrArg Value.bool (by rw [fk4]; rfl)) ?_
  have fb8 := inB_not fk4
  refine J.run 17 K52_25 [(2, .bool false)] w5 (by kernel_rfl) ?_
  refine J.ret Tryd.f52 [.bool false] Tryd.func52 ⟨by kernel_rfl, trivial⟩ ?_
  refine hR _ _ ?_
  exact ⟨congrArg Value.bool (by first | (simp [sigB, fk1, fk2, fk3, fk4]; done) | (simp [sigB, fk1, fk2, fk3, fk4]; omega) | (simp [sigB, inB, fk1, fk2, fk3, fk4]; done) | (simp [sigB, inB, fk1, fk2, fk3, fk4]; omega) | (simp [sigB, inB, fk1, fk2, fk3, fk4]; intros; omega)), S5.nil⟩
 refine J.head (.bool false) (congrArg Value.bool (by rw [fk4]; rfl)) ?_
 have fb3 := inB_iff.1 fk4
 refine J.run 1 K52_9 [(28, .pointer (some ⟨b1, 7, none⟩)), (27, .bool false), (1, .pointer (some ⟨b1, 0, none⟩))] w5 (by kernel_rfl) ?_
 refine J.ok (OK.ldBox S5 0 29 3 7 (.int .i64 den) (by kernel_rfl) rfl (by kernel_rfl)) ?_
 refine J.callF 30 62 #[.int .i64 den, .int .i64 1, .int .i64 1048576] hb62 (by kernel_rfl) (in_any den 1 1048576 _) ?_
 rintro _ w6 ⟨rfl, T5⟩
 have S6 : Sep w [box b1 [.string nm, .int .i64 st, .int .i64 ln, .bool mo, .bool sg, .int .i64 num, .int .i64 off, .int .i64 den, .int .i64 low, .int .i64 high] 57] w6 := S5.trans T5
 clear T5 S5
 refine J.run 3 K52_10 [(33, .bool (!(inB den 1 1048576))), (1, .pointer (some ⟨b1, 0, none⟩))] w6 (by kernel_rfl) ?_
 rcases Bool.eq_false_or_eq_true (inB den 1 1048576) with fk5 | fk5
 rotate_left
 ·skip
  refine J.head (.bool true) (congrArg Value.bool (by rw [fk5]; rfl)) ?_
  have fb7 := inB_not fk5
  refine J.run 11 K52_24 [(2, .bool false)] w6 (by kernel_rfl) ?_
  refine J.ret Tryd.f52 [.bool false] Tryd.func52 ⟨by kernel_rfl, trivial⟩ ?_
  refine hR _ _ ?_
  exact ⟨congrArg Value.bool (by first | (simp [sigB, fk1, fk2, fk3, fk4, fk5]; done) | (simp [sigB, fk1, fk2, fk3, fk4, fk5]; omega) | (simp [sigB, inB, fk1, fk2, fk3, fk4, fk5]; done) | (simp [sigB, inB, fk1, fk2, fk3, fk4, fk5]; omega) | (simp [sigB, inB, fk1, fk2, fk3, fk4, fk5]; intros; omega)), S6.nil⟩
 refine J.head (.bool false) (congrArg Value.bool (by rw [fk5]; rfl)) ?_
 have fb4 := inB_iff.1 fk5
 refine J.run 1 K52_11 [(34, .pointer (some ⟨b1, 6, none⟩)), (33, .bool false), (1, .pointer (some ⟨b1, 0, none⟩))] w6 (by kernel_rfl) ?_
 refine J.ok (OK.ldBox S6 0 35 3 6 (.int .i64 off) (by kernel_rfl) rfl (by kernel_rfl)) ?_
 refine J.callF 36 62 #[.int .i64 off, .int .i64 (-1073741824), .int .i64 1073741824] hb62 (by kernel_rfl) (in_any off (-1073741824) 1073741824 _) ?_
 rintro _ w7 ⟨rfl, T6⟩
 have S7 : Sep w [box b1 [.string nm, .int .i64 st, .int .i64 ln, .bool mo, .bool sg, .int .i64 num, .int .i64 off, .int .i64 den, .int .i64 low, .int .i64 high] 57] w7 := S6.trans T6
 clear T6 S6
 refine J.run 3 K52_12 [(38, .bool (!(inB off (-1073741824) 1073741824))), (1, .pointer (some ⟨b1, 0, none⟩))] w7 (by kernel_rfl) ?_
 rcases Bool.eq_false_or_eq_true (inB off (-1073741824) 1073741824) with fk6 | fk6
 rotate_left
 ·skip
  refine J.head (.bool true) (congrArg Value.bool (by rw [fk6]; rfl)) ?_
  have fb6 := inB_not fk6
  refine J.run 5 K52_23 [(2, .bool false)] w7 (by kernel_rfl) ?_
  refine J.ret Tryd.f52 [.bool false] Tryd.func52 ⟨by kernel_rfl, trivial⟩ ?_
  refine hR _ _ ?_
  exact ⟨congrArg Value.bool (by first | (simp [sigB, fk1, fk2, fk3, fk4, fk5, fk6]; done) | (simp [sigB, fk1, fk2, fk3, fk4, fk5, fk6]; omega) | (simp [sigB, inB, fk1, fk2, fk3, fk4, fk5, fk6]; done) | (simp [sigB, inB, fk1, fk2, fk3, fk4, fk5, fk6]; omega) | (simp [sigB, inB, fk1, fk2, fk3, fk4, fk5, fk6]; intros; omega)), S7.nil⟩
 refine J.head (.bool false) (congrArg Value.bool (by rw [fk6]; rfl)) ?_
 have fb5 := inB_iff.1 fk6
 refine J.run 4 K52_13 [(1, .pointer (some ⟨b1, 0, none⟩))] w7 (by kernel_rfl) ?_
 refine J.ok (OK.ldBox S7 0 40 57 0 (.agg #[.string nm, .int .i64 st, .int .i64 ln, .bool mo, .bool sg, .int .i64 num, .int .i64 off, .int .i64 den, .int .i64 low, .int .i64 high]) (by kernel_rfl) rfl (by kernel_rfl)) ?_
 have := lim_bounds (ln := ln) sg (by omega)
 refine J.callF 41 79 #[.agg #[.string nm, .int .i64 st, .int .i64 ln, .bool mo, .bool sg, .int .i64 num, .int .i64 off, .int .i64 den, .int .i64 low, .int .i64 high]] hb79 (by kernel_rfl) (lims_any nm st ln mo sg num off den low high _ (by omega)) ?_
 rintro _ w8 ⟨rfl, T7⟩
 have S8 : Sep w [box b1 [.string nm, .int .i64 st, .int .i64 ln, .bool mo, .bool sg, .int .i64 num, .int .i64 off, .int .i64 den, .int .i64 low, .int .i64 high] 57] w8 := S7.trans T7
 clear T7 S7
 refine J.run 10 K52_14 [(45, .pointer (some ⟨b1, 8, none⟩)), (44, .int .i64 (lowF ln sg)), (4, .int .i64 (highF ln sg)), (1, .pointer (some ⟨b1, 0, none⟩))] w8 (by kernel_rfl) ?_
 refine J.ok (OK.ldBox S8 0 46 3 8 (.int .i64 low) (by kernel_rfl) rfl (by kernel_rfl)) ?_
 refine J.run 2 K52_15 [(48, .bool (decide ((lowF ln sg) ≤ low))), (4, .int .i64 (highF ln sg)), (1, .pointer (some ⟨b1, 0, none⟩))] w8 (by kernel_rfl) ?_
 by_cases fk7 : (lowF ln sg) ≤ low
 rotate_left
 ·skip
  refine J.head (.bool false) (congrArg Value.bool (decide_eq_false fk7)) ?_
  refine J.run 14 K52_22 [(2, .bool false)] w8 (by kernel_rfl) ?_
  refine J.ret Tryd.f52 [.bool false] Tryd.func52 ⟨by kernel_rfl, trivial⟩ ?_
  refine hR _ _ ?_
  exact ⟨congrArg Value.bool (by first | (simp [sigB, fk1, fk2, fk3, fk4, fk5, fk6, fk7]; done) | (simp [sigB, fk1, fk2, fk3, fk4, fk5, fk6, fk7]; omega) | (simp [sigB, inB, fk1, fk2, fk3, fk4, fk5, fk6, fk7]; done) | (simp [sigB, inB, fk1, fk2, fk3, fk4, fk5, fk6, fk7]; omega) | (simp [sigB, inB, fk1, fk2, fk3, fk4, fk5, fk6, fk7]; intros; omega)), S8.nil⟩
 refine J.head (.bool true) (congrArg Value.bool (decide_eq_true fk7)) ?_
 refine J.run 1 K52_16 [(49, .pointer (some ⟨b1, 8, none⟩)), (48, .bool true), (4, .int .i64 (highF ln sg)), (1, .pointer (some ⟨b1, 0, none⟩))] w8 (by kernel_rfl) ?_
 refine J.ok (OK.ldBox S8 0 50 3 8 (.int .i64 low) (by kernel_rfl) rfl (by kernel_rfl)) ?_
 refine J.run 1 K52_17 [(51, .pointer (some ⟨b1, 9, none⟩)), (50, .int .i64 low), (48, .bool true), (4, .int .i64 (highF ln sg)), (1, .pointer (some ⟨b1, 0, none⟩))] w8 (by kernel_rfl) ?_
 refine J.ok (OK.ldBox S8 0 52 3 9 (.int .i64 high) (by kernel_rfl) rfl (by kernel_rfl)) ?_
 refine J.run 3 K52_18 [(55, .bool (decide (low ≤ high))), (4, .int .i64 (highF ln sg)), (1, .pointer (some ⟨b1, 0, none⟩))] w8 (by kernel_rfl) ?_
 by_cases fk8 : low ≤ high
 rotate_left
 ·skip
  refine J.head (.bool false) (congrArg Value.bool (decide_eq_false fk8)) ?_
  refine J.run 7 K52_21 [(2, .bool false)] w8 (by kernel_rfl) ?_
  refine J.ret Tryd.f52 [.bool false] Tryd.func52 ⟨by kernel_rfl, trivial⟩ ?_
  refine hR _ _ ?_
  exact ⟨congrArg Value.bool (by first | (simp [sigB, fk1, fk2, fk3, fk4, fk5, fk6, fk7, fk8]; done) | (simp [sigB, fk1, fk2, fk3, fk4, fk5, fk6, fk7, fk8]; omega) | (simp [sigB, inB, fk1, fk2, fk3, fk4, fk5, fk6, fk7, fk8]; done) | (simp [sigB, inB, fk1, fk2, fk3, fk4, fk5, fk6, fk7, fk8]; omega) | (simp [sigB, inB, fk1, fk2, fk3, fk4, fk5, fk6, fk7, fk8]; intros; omega)), S8.nil⟩
 refine J.head (.bool true) (congrArg Value.bool (decide_eq_true fk8)) ?_
 refine J.run 1 K52_19 [(56, .pointer (some ⟨b1, 9, none⟩)), (55, .bool true), (4, .int .i64 (highF ln sg))] w8 (by kernel_rfl) ?_
 refine J.ok (OK.ldBox S8 0 57 3 9 (.int .i64 high) (by kernel_rfl) rfl (by kernel_rfl)) ?_
 refine J.run 5 K52_20 [(2, .bool (decide (high ≤ (highF ln sg))))] w8 (by kernel_rfl) ?_
 refine J.ret Tryd.f52 [.bool (decide (high ≤ (highF ln sg)))] Tryd.func52 ⟨by kernel_rfl, trivial⟩ ?_
 refine hR _ _ ?_
 exact ⟨congrArg Value.bool (by first | (simp [sigB, fk1, fk2, fk3, fk4, fk5, fk6, fk7, fk8]; done) | (simp [sigB, fk1, fk2, fk3, fk4, fk5, fk6, fk7, fk8]; omega) | (simp [sigB, inB, fk1, fk2, fk3, fk4, fk5, fk6, fk7, fk8]; done) | (simp [sigB, inB, fk1, fk2, fk3, fk4, fk5, fk6, fk7, fk8]; omega) | (simp [sigB, inB, fk1, fk2, fk3, fk4, fk5, fk6, fk7, fk8]; intros; omega)), S8.nil⟩

theorem hb53 : HasBody Tryd.prog 53 := fun _ _ => by kernel_rfl
def K53_0 := adv 5 [] (bodyOf Tryd.f53)
def K53_1 := adv 5 [] K53_0
def K53_2 := adv 7 [] K53_1
def K53_3 := adv 4 [true] K53_2
def K53_4 := adv 4 [] (rRest K53_3)
def K53_5 := adv 2 [] K53_4
def K53_6 := adv 2 [false] K53_2
set_option maxRecDepth 20000 in
set_option maxHeartbeats 20000000 in
theorem reverse_any (a : Option Addr) (c : Nat) (l : List Int) (w0 : World) (L0 : List Eng.Claim) (w : World) (S0 : Sep w0 (rowOf encI a c 3 1 l :: L0) w) (hl : l.length ≤ 1000000) : Ret Tryd.prog 53 #[.slice a l.length c] w (fun v w' => v = .tuple #[] ∧ Sep w0 (rowOf encI a c 3 1 l.reverse :: L0) w') := by
 refine Ret.named fun R hR => ?_
 refine Ret.of_J (N := 28) [(0, .slice a l.length c)] Tryd.func53 rfl rfl (Nat.le_of_ble_eq_true (by kernel_rfl)) (by kernel_rfl) ?_
 refine J.run 5 K53_0 [(6, .int .i64 (IntKind.wrap .i64 ((l.length : Int) - 1))), (0, .slice a l.length c)] w (by kernel_rfl) ?_
 refine J.head (.int .i64 ((l.length : Int) - 1)) (congrArg (Value.int .i64) (IntWalk.i64_in _ (by omega))) ?_
 refine J.run 5 K53_1 [(3, .int .i64 ((l.length : Int) - 1)), (2, .int .i64 0), (0, .slice a l.length c)] w (by kernel_rfl) ?_
 have L53_1 : ∀ (mm_ : Nat) (ls : List Int) (i : Int) (j : Int) (w1 : World), (0 ≤ i) → (i + j + 1 = (l.length : Int)) → (ls = revPart l (i).toNat) → ((ls).length = l.length) → Sep w0 (rowOf encI a c 3 1 ls :: L0) w1 → (j - i + 1).toNat = mm_ → J Tryd.prog 53 28 R K53_1 [(3, .int .i64 j), (2, .int .i64 i), (0, .slice a l.length c)] w1 := by
  intro mm1
  induction mm1 using Nat.strongRecOn with
  | _ mm1 ih1 =>
  intro ls i j w1 h0 hij hls hln S1 hm1
  refine J.run 7 K53_2 [(9, .bool (decide (i < j))), (3, .int .i64 j), (2, .int .i64 i), (0, .slice a l.length c)] w1 (by kernel_rfl) ?_
  by_cases fk1 : i < j
  rotate_left
  ·skip
   refine J.head (.bool false) (congrArg Value.bool (decide_eq_false fk1)) ?_
   refine J.run 2 K53_6 [] w1 (by kernel_rfl) ?_
   refine J.done Tryd.f53 [] Tryd.func53 trivial ?_
   refine hR _ _ ?_
   rw [hls, revPart_end fk1 (by omega) h0] at S1
   exact ⟨rfl, S1⟩
  refine J.head (.bool true) (congrArg Value.bool (decide_eq_true fk1)) ?_
  refine J.run 4 K53_3 [(3, .int .i64 j), (2, .int .i64 i), (0, .slice a l.length c)] w1 (by kernel_rfl) ?_
  obtain ⟨p1, hp1⟩ := row1_addr (S1.nth 0 rfl) (show 0 < (ls).length by first | omega | (simp; omega))
  obtain ⟨p2, hp2⟩ := row1_addr (S1.nth 0 rfl) (show 0 < (ls).length by first | omega | (simp; omega))
  have W1 : ∀ (w2 : World), Sep w0 (rowOf encI a c 3 1 ((ls.set (i).toNat (ls.getD (j).toNat 0)).set (j).toNat (ls.getD (i).toNat 0)) :: L0) w2 → WA Tryd.prog 53 28 R K53_3 (fun w_ => Sep w0 (L0) w_) 0 #[true, true, true, true, true, true, true, true, true, true, true, true, true, true, true, true] [(0, .slice a l.length c), (2, .int .i64 i), (3, .int .i64 j)] w2 := by
   intro w2 S2
   refine WA.done (by kernel_rfl) ?_
   refine J.run 0 (rRest K53_3) [(0, .slice a l.length c), (2, .int .i64 i), (3, .int .i64 j)] w2 (by kernel_rfl) ?_
   refine J.run 4 K53_4 [(11, .int .i64 (IntKind.wrap .i64 (i + 1))), (0, .slice a l.length c), (3, .int .i64 j)] w2 (by kernel_rfl) ?_
   refine J.head (.int .i64 (i + 1)) (congrArg (Value.int .i64) (IntWalk.i64_in _ (by omega))) ?_
   refine J.run 2 K53_5 [(13, .int .i64 (IntKind.wrap .i64 (j - 1))), (11, .int .i64 (i + 1)), (0, .slice a l.length c)] w2 (by kernel_rfl) ?_
   refine J.head (.int .i64 (j - 1)) (congrArg (Value.int .i64) (IntWalk.i64_in _ (by omega))) ?_
   refine J.run 4 K53_1 [(3, .int .i64 (j - 1)), (2, .int .i64 (i + 1)), (0, .slice a l.length c)] w2 (by kernel_rfl) ?_
   refine J.run 0 K53_1 [(3, .int .i64 (j - 1)), (2, .int .i64 (i + 1)), (0, .slice a l.length c)] w2 (by kernel_rfl) ?_
   exact ih1 _ (show ((j - 1) - (i + 1) + 1).toNat < mm1 from by omega) ((ls.set (i).toNat (ls.getD (j).toNat 0)).set (j).toNat (ls.getD (i).toNat 0)) (i + 1) (j - 1) w2 (by omega) (by omega) (revPart_next h0 (by assumption) hij hls) (by simp [hln]) S2 rfl
  have W2 : ∀ (w3 : World), Sep w0 (rowOf encI a c 3 1 (ls.set (i).toNat (ls.getD (j).toNat 0)) :: L0) w3 → WA Tryd.prog 53 28 R K53_3 (fun w_ => Sep w0 (L0) w_) 1 #[true, true, true, true, true, true, true, true, true, true, true, true, true, true, true, false] [(0, .slice a l.length c), (2, .int .i64 i), (3, .int .i64 j), (25, .int .i64 (ls.getD (i).toNat 0)), (27, .pointer (some (p1.add (j).toNat)))] w3 := by
   intro w3 S3
   refine WA.all [15] (by kernel_rfl) rfl ⟨?_, trivial⟩
   refine WO.set #[true, true, true, true, true, true, true, true, true, true, true, true, true, true, true, true] (by kernel_rfl) ?_
   refine WO.stRow1 (Value.int .i64) (int_one _) S3 0 (ls.set (i).toNat (ls.getD (j).toNat 0)) 3 p1 (j).toNat (ls.getD (i).toNat 0) rfl (by kernel_rfl) hp1 (by first | omega | (simp; omega)) (by kernel_rfl) ?_
   intro w4 S4
   replace S4 : Sep w0 (rowOf encI a c 3 1 ((ls.set (i).toNat (ls.getD (j).toNat 0)).set (j).toNat (ls.getD (i).toNat 0)) :: L0) w4 := S4
   refine WB.mk (S4.erase 0) ?_
   refine WA.weaken (env' := [(0, .slice a l.length c), (2, .int .i64 i), (3, .int .i64 j)]) (by kernel_rfl) ?_
   exact W1 w4 S4
  have W3 : ∀ (w5 : World), Sep w0 (rowOf encI a c 3 1 ls :: L0) w5 → WA Tryd.prog 53 28 R K53_3 (fun w_ => Sep w0 (L0) w_) 3 #[true, true, true, true, true, true, true, true, true, true, true, true, true, false, false, false] [(0, .slice a l.length c), (2, .int .i64 i), (3, .int .i64 j), (16, .slice a l.length c), (17, .int .i64 j), (21, .int .i64 (ls.getD (j).toNat 0)), (25, .int .i64 (ls.getD (i).toNat 0)), (26, .pointer (some (p2.add (i).toNat)))] w5 := by
   intro w5 S5
   refine WA.all [13] (by kernel_rfl) rfl ⟨?_, trivial⟩
   refine WO.set #[true, true, true, true, true, true, true, true, true, true, true, true, true, true, false, false] (by kernel_rfl) ?_
   refine WO.stRow1 (Value.int .i64) (int_one _) S5 0 ls 3 p2 (i).toNat (ls.getD (j).toNat 0) rfl (by kernel_rfl) hp2 (by first | omega | (simp; omega)) (by kernel_rfl) ?_
   intro w6 S6
   replace S6 : Sep w0 (rowOf encI a c 3 1 (ls.set (i).toNat (ls.getD (j).toNat 0)) :: L0) w6 := S6
   refine WB.mk (S6.erase 0) ?_
   refine WA.takeOK 14 #[true, true, true, true, true, true, true, true, true, true, true, true, true, true, true, false] (by kernel_rfl) (by kernel_rfl) (by kernel_rfl) (by kernel_rfl) (fun w_ S_ => OK.index 27 59 1 a p1 l.length (j).toNat j (p1.add (j).toNat) (by kernel_rfl) (by kernel_rfl) hp1 (by omega) (by first | omega | (simp; omega)) (by rw [Nat.mul_one])) rfl ?_
   refine WA.weaken (env' := [(0, .slice a l.length c), (2, .int .i64 i), (3, .int .i64 j), (25, .int .i64 (ls.getD (i).toNat 0)), (27, .pointer (some (p1.add (j).toNat)))]) (by kernel_rfl) ?_
   exact W2 w6 S6
  have W4 : ∀ (w7 : World), Sep w0 (rowOf encI a c 3 1 ls :: L0) w7 → WA Tryd.prog 53 28 R K53_3 (fun w_ => Sep w0 (L0) w_) 5 #[true, true, true, true, true, true, true, true, true, true, true, false, false, false, false, false] [(0, .slice a l.length c), (2, .int .i64 i), (3, .int .i64 j), (14, .slice a l.length c), (15, .int .i64 i), (16, .slice a l.length c), (17, .int .i64 j), (21, .int .i64 (ls.getD (j).toNat 0)), (24, .pointer (some (p2.add (i).toNat)))] w7 := by
   intro w7 S7
   refine WA.all [11] (by kernel_rfl) rfl ⟨?_, trivial⟩
   refine WO.set #[true, true, true, true, true, true, true, true, true, true, true, true, false, false, false, false] (by kernel_rfl) ?_
   refine WO.ok (OK.ldCell 25 3 (p2.add (i).toNat) (.int .i64 (ls.getD (i).toNat 0)) (by kernel_rfl) (by kernel_rfl) (row1_cell (g := (Value.int .i64)) S7 0 rfl hp2 0 (i).toNat (by first | omega | (simp; omega)))) ?_
   refine WB.mk (S7.erase 0) ?_
   refine WA.takeOK 12 #[true, true, true, true, true, true, true, true, true, true, true, true, true, false, false, false] (by kernel_rfl) (by kernel_rfl) (by kernel_rfl) (by kernel_rfl) (fun w_ S_ => OK.index 26 59 1 a p2 l.length (i).toNat i (p2.add (i).toNat) (by kernel_rfl) (by kernel_rfl) hp2 (by omega) (by first | omega | (simp; omega)) (by rw [Nat.mul_one])) rfl ?_
   refine WA.weaken (env' := [(0, .slice a l.length c), (2, .int .i64 i), (3, .int .i64 j), (16, .slice a l.length c), (17, .int .i64 j), (21, .int .i64 (ls.getD (j).toNat 0)), (25, .int .i64 (ls.getD (i).toNat 0)), (26, .pointer (some (p2.add (i).toNat)))]) (by kernel_rfl) ?_
   exact W3 w7 S7
  have W5 : ∀ (w8 : World), Sep w0 (rowOf encI a c 3 1 ls :: L0) w8 → WA Tryd.prog 53 28 R K53_3 (fun w_ => Sep w0 (L0) w_) 5 #[true, true, true, true, true, true, true, false, true, true, true, true, false, false, false, false] [(0, .slice a l.length c), (2, .int .i64 i), (3, .int .i64 j), (14, .slice a l.length c), (15, .int .i64 i), (16, .slice a l.length c), (17, .int .i64 j), (20, .pointer (some (p1.add (j).toNat))), (25, .int .i64 (ls.getD (i).toNat 0))] w8 := by
   intro w8 S8
   refine WA.all [7] (by kernel_rfl) rfl ⟨?_, trivial⟩
   refine WO.set #[true, true, true, true, true, true, true, true, true, true, true, true, false, false, false, false] (by kernel_rfl) ?_
   refine WO.ok (OK.ldCell 21 3 (p1.add (j).toNat) (.int .i64 (ls.getD (j).toNat 0)) (by kernel_rfl) (by kernel_rfl) (row1_cell (g := (Value.int .i64)) S8 0 rfl hp1 0 (j).toNat (by first | omega | (simp; omega)))) ?_
   refine WB.mk (S8.erase 0) ?_
   refine WA.takeOK 12 #[true, true, true, true, true, true, true, true, true, true, true, true, true, false, false, false] (by kernel_rfl) (by kernel_rfl) (by kernel_rfl) (by kernel_rfl) (fun w_ S_ => OK.index 26 59 1 a p2 l.length (i).toNat i (p2.add (i).toNat) (by kernel_rfl) (by kernel_rfl) hp2 (by omega) (by first | omega | (simp; omega)) (by rw [Nat.mul_one])) rfl ?_
   refine WA.weaken (env' := [(0, .slice a l.length c), (2, .int .i64 i), (3, .int .i64 j), (16, .slice a l.length c), (17, .int .i64 j), (21, .int .i64 (ls.getD (j).toNat 0)), (25, .int .i64 (ls.getD (i).toNat 0)), (26, .pointer (some (p2.add (i).toNat)))]) (by kernel_rfl) ?_
   exact W3 w8 S8
  have W6 : ∀ (w9 : World), Sep w0 (rowOf encI a c 3 1 ls :: L0) w9 → WA Tryd.prog 53 28 R K53_3 (fun w_ => Sep w0 (L0) w_) 6 #[true, true, true, true, true, true, true, false, true, true, true, false, false, false, false, false] [(0, .slice a l.length c), (2, .int .i64 i), (3, .int .i64 j), (14, .slice a l.length c), (15, .int .i64 i), (16, .slice a l.length c), (17, .int .i64 j), (20, .pointer (some (p1.add (j).toNat))), (24, .pointer (some (p2.add (i).toNat)))] w9 := by
   intro w9 S9
   refine WA.all [7, 11] (by kernel_rfl) rfl ⟨?_, ?_, trivial⟩
   ·skip
    refine WO.set #[true, true, true, true, true, true, true, true, true, true, true, false, false, false, false, false] (by kernel_rfl) ?_
    refine WO.ok (OK.ldCell 21 3 (p1.add (j).toNat) (.int .i64 (ls.getD (j).toNat 0)) (by kernel_rfl) (by kernel_rfl) (row1_cell (g := (Value.int .i64)) S9 0 rfl hp1 0 (j).toNat (by first | omega | (simp; omega)))) ?_
    refine WB.mk (S9.erase 0) ?_
    refine WA.weaken (env' := [(0, .slice a l.length c), (2, .int .i64 i), (3, .int .i64 j), (14, .slice a l.length c), (15, .int .i64 i), (16, .slice a l.length c), (17, .int .i64 j), (21, .int .i64 (ls.getD (j).toNat 0)), (24, .pointer (some (p2.add (i).toNat)))]) (by kernel_rfl) ?_
    exact W4 w9 S9
   refine WO.set #[true, true, true, true, true, true, true, false, true, true, true, true, false, false, false, false] (by kernel_rfl) ?_
   refine WO.ok (OK.ldCell 25 3 (p2.add (i).toNat) (.int .i64 (ls.getD (i).toNat 0)) (by kernel_rfl) (by kernel_rfl) (row1_cell (g := (Value.int .i64)) S9 0 rfl hp2 0 (i).toNat (by first | omega | (simp; omega)))) ?_
   refine WB.mk (S9.erase 0) ?_
   refine WA.weaken (env' := [(0, .slice a l.length c), (2, .int .i64 i), (3, .int .i64 j), (14, .slice a l.length c), (15, .int .i64 i), (16, .slice a l.length c), (17, .int .i64 j), (20, .pointer (some (p1.add (j).toNat))), (25, .int .i64 (ls.getD (i).toNat 0))]) (by kernel_rfl) ?_
   exact W5 w9 S9
  refine J.drawAny (fun w_ => Sep w0 (L0) w_) S1 16 #[false, false, false, false, false, false, false, false, false, false, false, false, false, false, false, false] Tryd.mixed (by kernel_rfl) (by kernel_rfl) (by kernel_rfl) ?_
  intro w10 S10
  refine WB.mk (S10.erase 0) ?_
  refine WA.take 0 14 (.slice a l.length c) #[true, false, false, false, false, false, false, false, false, false, false, false, false, false, false, false] (by kernel_rfl) (by kernel_rfl) (by kernel_rfl) (fun _ _ => by kernel_rfl) (by kernel_rfl) ?_
  refine WA.take 1 15 (.int .i64 i) #[true, true, false, false, false, false, false, false, false, false, false, false, false, false, false, false] (by kernel_rfl) (by kernel_rfl) (by kernel_rfl) (fun _ _ => by kernel_rfl) (by kernel_rfl) ?_
  refine WA.take 2 16 (.slice a l.length c) #[true, true, true, false, false, false, false, false, false, false, false, false, false, false, false, false] (by kernel_rfl) (by kernel_rfl) (by kernel_rfl) (fun _ _ => by kernel_rfl) (by kernel_rfl) ?_
  refine WA.take 3 17 (.int .i64 j) #[true, true, true, true, false, false, false, false, false, false, false, false, false, false, false, false] (by kernel_rfl) (by kernel_rfl) (by kernel_rfl) (fun _ _ => by kernel_rfl) (by kernel_rfl) ?_
  refine WA.take 4 18 (.slice a l.length c) #[true, true, true, true, true, false, false, false, false, false, false, false, false, false, false, false] (by kernel_rfl) (by kernel_rfl) (by kernel_rfl) (fun _ _ => by kernel_rfl) (by kernel_rfl) ?_
  refine WA.take 5 19 (.int .i64 j) #[true, true, true, true, true, true, false, false, false, false, false, false, false, false, false, false] (by kernel_rfl) (by kernel_rfl) (by kernel_rfl) (fun _ _ => by kernel_rfl) (by kernel_rfl) ?_
  refine WA.takeOK 6 #[true, true, true, true, true, true, true, false, false, false, false, false, false, false, false, false] (by kernel_rfl) (by kernel_rfl) (by kernel_rfl) (by kernel_rfl) (fun w_ S_ => OK.index 20 59 1 a p1 l.length (j).toNat j (p1.add (j).toNat) (by kernel_rfl) (by kernel_rfl) hp1 (by omega) (by first | omega | (simp; omega)) (by rw [Nat.mul_one])) rfl ?_
  refine WA.take 8 22 (.slice a l.length c) #[true, true, true, true, true, true, true, false, true, false, false, false, false, false, false, false] (by kernel_rfl) (by kernel_rfl) (by kernel_rfl) (fun _ _ => by kernel_rfl) (by kernel_rfl) ?_
  refine WA.take 9 23 (.int .i64 i) #[true, true, true, true, true, true, true, false, true, true, false, false, false, false, false, false] (by kernel_rfl) (by kernel_rfl) (by kernel_rfl) (fun _ _ => by kernel_rfl) (by kernel_rfl) ?_
  refine WA.takeOK 10 #[true, true, true, true, true, true, true, false, true, true, true, false, false, false, false, false] (by kernel_rfl) (by kernel_rfl) (by kernel_rfl) (by kernel_rfl) (fun w_ S_ => OK.index 24 59 1 a p2 l.length (i).toNat i (p2.add (i).toNat) (by kernel_rfl) (by kernel_rfl) hp2 (by omega) (by first | omega | (simp; omega)) (by rw [Nat.mul_one])) rfl ?_
  refine WA.weaken (env' := [(0, .slice a l.length c), (2, .int .i64 i), (3, .int .i64 j), (14, .slice a l.length c), (15, .int .i64 i), (16, .slice a l.length c), (17, .int .i64 j), (20, .pointer (some (p1.add (j).toNat))), (24, .pointer (some (p2.add (i).toNat)))]) (by kernel_rfl) ?_
  exact W6 w10 S10
 exact L53_1 _ l 0 ((l.length : Int) - 1) w (by omega) (by omega) ((revPart_start l).symm) (rfl) S0 rfl

theorem hb24 : HasBody Tryd.prog 24 := fun _ _ => by kernel_rfl
def K24_0 := adv 2 [] (bodyOf Tryd.f24)
def K24_1 := adv 5 [] (popK K24_0)
def K24_2 := adv 2 [] (popK (popK K24_1))
def K24_3 := adv 9 [false] K24_2
def K24_4 := adv 6 [] (popK K24_3)
def K24_5 := adv 4 [] (popK K24_4)
def K24_6 := adv 5 [] K24_5
def K24_7 := adv 8 [true] K24_6
def K24_8 := adv 6 [] (popK (popK K24_7))
def K24_9 := adv 3 [] (popK K24_8)
def K24_10 := adv 5 [false] K24_9
def K24_11 := adv 3 [] K24_10
def K24_12 := adv 4 [true] K24_11
def K24_13 := adv 6 [] K24_12
def K24_14 := adv 4 [false] K24_11
def K24_15 := adv 6 [] K24_14
def K24_16 := adv 4 [true] K24_9
def K24_17 := adv 6 [] K24_16
def K24_18 := adv 6 [false] K24_6
def K24_19 := adv 1 [] (popK K24_18)
def K24_20 := adv 3 [true] K24_19
def K24_21 := adv 6 [] (popK K24_20)
def K24_22 := adv 7 [false] K24_19
def K24_23 := adv 5 [true] K24_2
set_option maxRecDepth 20000 in
set_option maxHeartbeats 20000000 in
theorem bits_any (nm : ByteArray) (st ln : Int) (mo sg : Bool) (num off den low high : Int) (w : World) (hnm : nm.size ≤ 9223372036854775807) : Ret Tryd.prog 24 #[.agg #[.string nm, .int .i64 st, .int .i64 ln, .bool mo, .bool sg, .int .i64 num, .int .i64 off, .int .i64 den, .int .i64 low, .int .i64 high]] w (fun v w' => ∃ a cap, v = .slice a (bitsF nm st ln mo sg num off den low high).length cap ∧ Sep w [rowOf encI a cap 3 1 (bitsF nm st ln mo sg num off den low high)] w') := by
 have S0 := Sep.refl w
 refine Ret.named fun R hR => ?_
 refine Ret.of_J (N := 38) [(0, .agg #[.string nm, .int .i64 st, .int .i64 ln, .bool mo, .bool sg, .int .i64 num, .int .i64 off, .int .i64 den, .int .i64 low, .int .i64 high])] Tryd.func24 rfl rfl (Nat.le_of_ble_eq_true (by kernel_rfl)) (by kernel_rfl) ?_
 refine J.run 2 K24_0 [(0, .agg #[.string nm, .int .i64 st, .int .i64 ln, .bool mo, .bool sg, .int .i64 num, .int .i64 off, .int .i64 den, .int .i64 low, .int .i64 high])] w (by kernel_rfl) ?_
 refine J.new S0 1 [.string nm, .int .i64 st, .int .i64 ln, .bool mo, .bool sg, .int .i64 num, .int .i64 off, .int .i64 den, .int .i64 low, .int .i64 high] 57 (by kernel_rfl) ?_
 intro b1 w1 S1
 refine J.run 5 K24_1 [(1, .pointer (some ⟨b1, 0, none⟩))] w1 (by kernel_rfl) ?_
 refine J.ok (OK.ldBox S1 0 5 57 0 (.agg #[.string nm, .int .i64 st, .int .i64 ln, .bool mo, .bool sg, .int .i64 num, .int .i64 off, .int .i64 den, .int .i64 low, .int .i64 high]) (by kernel_rfl) rfl (by kernel_rfl)) ?_
 refine J.callF 6 52 #[.agg #[.string nm, .int .i64 st, .int .i64 ln, .bool mo, .bool sg, .int .i64 num, .int .i64 off, .int .i64 den, .int .i64 low, .int .i64 high]] hb52 (by kernel_rfl) (valid_any nm st ln mo sg num off den low high _ (by omega)) ?_
 rintro _ w2 ⟨rfl, T1⟩
 have S2 : Sep w [box b1 [.string nm, .int .i64 st, .int .i64 ln, .bool mo, .bool sg, .int .i64 num, .int .i64 off, .int .i64 den, .int .i64 low, .int .i64 high] 57] w2 := S1.trans T1
 clear T1 S1
 refine J.run 2 K24_2 [(7, .bool (!(sigB nm st ln mo sg num off den low high))), (1, .pointer (some ⟨b1, 0, none⟩))] w2 (by kernel_rfl) ?_
 rcases Bool.eq_false_or_eq_true (sigB nm st ln mo sg num off den low high) with fk1 | fk1
 rotate_left
 ·skip
  refine J.head (.bool true) (congrArg Value.bool (by rw [fk1]; rfl)) ?_
  refine J.run 5 K24_23 [(2, .slice none 0 0)] w2 (by kernel_rfl) ?_
  refine J.ret Tryd.f24 [.slice none 0 0] Tryd.func24 ⟨by kernel_rfl, trivial⟩ ?_
  refine hR _ _ ?_
  exact ⟨none, 0, by rw [bitsF, fk1]; rfl, by rw [bitsF, fk1]; exact (S2.nilRow 3 1).pick 0 rfl⟩
 refine J.head (.bool false) (congrArg Value.bool (by rw [fk1]; rfl)) ?_
 obtain ⟨hs1, hs2, hs3, hs4, hs5⟩ := sigB_facts fk1
 refine J.run 9 K24_3 [(8, .pointer (some ⟨b1, 1, none⟩)), (3, .slice none 0 0), (1, .pointer (some ⟨b1, 0, none⟩))] w2 (by kernel_rfl) ?_
 refine J.ok (OK.ldBox S2 0 9 3 1 (.int .i64 st) (by kernel_rfl) rfl (by kernel_rfl)) ?_
 refine J.run 6 K24_4 [(10, .pointer (some ⟨b1, 2, none⟩)), (4, .int .i64 st), (3, .slice none 0 0), (1, .pointer (some ⟨b1, 0, none⟩))] w2 (by kernel_rfl) ?_
 refine J.ok (OK.ldBox S2 0 11 3 2 (.int .i64 ln) (by kernel_rfl) rfl (by kernel_rfl)) ?_
 refine J.run 4 K24_5 [(12, .int .i64 0), (11, .int .i64 ln), (4, .int .i64 st), (3, .slice none 0 0), (1, .pointer (some ⟨b1, 0, none⟩))] w2 (by kernel_rfl) ?_
 have S3 : Sep w [rowOf encI none 0 3 1 ([]), box b1 [.string nm, .int .i64 st, .int .i64 ln, .bool mo, .bool sg, .int .i64 num, .int .i64 off, .int .i64 den, .int .i64 low, .int .i64 high] 57] w2 := S2.nilRow 3 1
 have L24_1 : ∀ (mm_ : Nat) (ra : Option Addr) (rc : Nat) (ls : List Int) (b : Int) (i : Int) (w3 : World), (0 ≤ i) → (i ≤ ln) → ((ls).length = (i).toNat) → (ls = seqF mo st (i).toNat) → (b = iterB mo st (i).toNat) → (0 ≤ b ∧ b ≤ 63 + 15 * i) → Sep w [rowOf encI ra rc 3 1 ls, box b1 [.string nm, .int .i64 st, .int .i64 ln, .bool mo, .bool sg, .int .i64 num, .int .i64 off, .int .i64 den, .int .i64 low, .int .i64 high] 57] w3 → (ln - i).toNat = mm_ → J Tryd.prog 24 38 R K24_5 [(12, .int .i64 i), (11, .int .i64 ln), (4, .int .i64 b), (3, .slice ra ls.length rc), (1, .pointer (some ⟨b1, 0, none⟩))] w3 := by
  intro mm1
  induction mm1 using Nat.strongRecOn with
  | _ mm1 ih1 =>
  intro ra rc ls b i w3 h0 h1 hn hls hb hbb S4 hm1
  refine J.run 5 K24_6 [(13, .bool (decide (i < ln))), (12, .int .i64 i), (11, .int .i64 ln), (4, .int .i64 b), (3, .slice ra ls.length rc), (1, .pointer (some ⟨b1, 0, none⟩))] w3 (by kernel_rfl) ?_
  by_cases fk2 : i < ln
  rotate_left
  ·skip
   refine J.head (.bool false) (congrArg Value.bool (decide_eq_false fk2)) ?_
   refine J.run 6 K24_18 [(33, .pointer (some ⟨b1, 3, none⟩)), (3, .slice ra ls.length rc)] w3 (by kernel_rfl) ?_
   refine J.ok (OK.ldBox S4 1 34 4 3 (.bool mo) (by kernel_rfl) rfl (by kernel_rfl)) ?_
   refine J.run 1 K24_19 [(34, .bool mo), (3, .slice ra ls.length rc)] w3 (by kernel_rfl) ?_
   rcases Bool.eq_false_or_eq_true mo with fk5 | fk5
   rotate_left
   ·skip
    refine J.head (.bool false) (congrArg Value.bool fk5) ?_
    refine J.run 7 K24_22 [(2, .slice ra ls.length rc)] w3 (by kernel_rfl) ?_
    refine J.ret Tryd.f24 [.slice ra ls.length rc] Tryd.func24 ⟨by kernel_rfl, trivial⟩ ?_
    refine hR _ _ ?_
    have e : ls = bitsF nm st ln mo sg num off den low high := by unfold bitsF; rw [fk1, hls, show i = ln by omega]; simp [fk5]
    exact ⟨ra, rc, by rw [tup_one, ← e] <;> simp, by rw [← e]; exact S4.pick 0 rfl⟩
   refine J.head (.bool true) (congrArg Value.bool fk5) ?_
   refine J.run 3 K24_20 [(35, .slice ra ls.length rc), (3, .slice ra ls.length rc)] w3 (by kernel_rfl) ?_
   have S8 : Sep w [rowOf encI ra rc 3 1 ls, box b1 [.string nm, .int .i64 st, .int .i64 ln, .bool mo, .bool sg, .int .i64 num, .int .i64 off, .int .i64 den, .int .i64 low, .int .i64 high] 57] w3 := S4.front 0 rfl
   clear S4
   refine J.callF 36 53 #[.slice ra ls.length rc] hb53 (by kernel_rfl) (reverse_any ra rc ls _ _ _ S8 (by omega)) ?_
   rintro _ w6 ⟨rfl, S9⟩
   replace S9 : Sep w [rowOf encI ra rc 3 1 ls.reverse, box b1 [.string nm, .int .i64 st, .int .i64 ln, .bool mo, .bool sg, .int .i64 num, .int .i64 off, .int .i64 den, .int .i64 low, .int .i64 high] 57] w6 := S9
   clear S8
   refine J.run 6 K24_21 [(2, .slice ra ls.length rc)] w6 (by kernel_rfl) ?_
   refine J.ret Tryd.f24 [.slice ra ls.length rc] Tryd.func24 ⟨by kernel_rfl, trivial⟩ ?_
   refine hR _ _ ?_
   have e : ls.reverse = bitsF nm st ln mo sg num off den low high := by unfold bitsF; rw [fk1, hls, show i = ln by omega]; simp [fk5]
   exact ⟨ra, rc, by rw [tup_one, ← e] <;> simp, by rw [← e]; exact S9.pick 0 rfl⟩
  refine J.head (.bool true) (congrArg Value.bool (decide_eq_true fk2)) ?_
  refine J.run 8 K24_7 [(15, .int .i64 b), (14, .slice ra ls.length rc), (12, .int .i64 i), (11, .int .i64 ln), (4, .int .i64 b), (1, .pointer (some ⟨b1, 0, none⟩))] w3 (by kernel_rfl) ?_
  refine J.newSlice S4 16 1 [.int .i64 b] 3 (by kernel_rfl) ?_
  intro b2 w4 S5
  refine J.append encI S5 1 ls b 17 59 (.int .i64 0) 8 ⟨b2, 0, none⟩ 1 rfl (by kernel_rfl) (by kernel_rfl) (by kernel_rfl) (by kernel_rfl) (by decide) (box_cells (S5.nth 0 rfl)) (by kernel_rfl) (by kernel_rfl) (⟨by omega, by omega⟩) ?_
  intro ra1 rc1 w5 S6
  replace S6 : Sep w [box b2 [.int .i64 b] 3, rowOf encI ra1 rc1 3 1 (ls ++ [b]), box b1 [.string nm, .int .i64 st, .int .i64 ln, .bool mo, .bool sg, .int .i64 num, .int .i64 off, .int .i64 den, .int .i64 low, .int .i64 high] 57] w5 := S6
  have S7 : Sep w [rowOf encI ra1 rc1 3 1 (ls ++ [b]), box b1 [.string nm, .int .i64 st, .int .i64 ln, .bool mo, .bool sg, .int .i64 num, .int .i64 off, .int .i64 den, .int .i64 low, .int .i64 high] 57] w5 := S6.erase 0
  clear S6
  refine J.run 6 K24_8 [(21, .pointer (some ⟨b1, 3, none⟩)), (3, .slice ra1 ((ls ++ [b]).length) rc1), (12, .int .i64 i), (11, .int .i64 ln), (4, .int .i64 b), (1, .pointer (some ⟨b1, 0, none⟩))] w5 (by kernel_rfl) ?_
  refine J.ok (OK.ldBox S7 1 22 4 3 (.bool mo) (by kernel_rfl) rfl (by kernel_rfl)) ?_
  refine J.run 3 K24_9 [(20, .bool (!mo)), (3, .slice ra1 ((ls ++ [b]).length) rc1), (12, .int .i64 i), (11, .int .i64 ln), (4, .int .i64 b), (1, .pointer (some ⟨b1, 0, none⟩))] w5 (by kernel_rfl) ?_
  rcases Bool.eq_false_or_eq_true mo with fk3 | fk3
  rotate_left
  ·skip
   refine J.head (.bool true) (congrArg Value.bool (by rw [fk3]; rfl)) ?_
   refine J.run 4 K24_16 [(25, .int .i64 (IntKind.wrap .i64 (b + 1))), (3, .slice ra1 ((ls ++ [b]).length) rc1), (12, .int .i64 i), (11, .int .i64 ln), (1, .pointer (some ⟨b1, 0, none⟩))] w5 (by kernel_rfl) ?_
   refine J.head (.int .i64 (b + 1)) (congrArg (Value.int .i64) (IntWalk.i64_in _ (by omega))) ?_
   refine J.run 6 K24_17 [(32, .int .i64 (IntKind.wrap .i64 (i + 1))), (4, .int .i64 (b + 1)), (3, .slice ra1 ((ls ++ [b]).length) rc1), (11, .int .i64 ln), (1, .pointer (some ⟨b1, 0, none⟩))] w5 (by kernel_rfl) ?_
   refine J.head (.int .i64 (i + 1)) (congrArg (Value.int .i64) (IntWalk.i64_in _ (by omega))) ?_
   refine J.run 3 K24_5 [(12, .int .i64 (i + 1)), (4, .int .i64 (b + 1)), (3, .slice ra1 ((ls ++ [b]).length) rc1), (11, .int .i64 ln), (1, .pointer (some ⟨b1, 0, none⟩))] w5 (by kernel_rfl) ?_
   refine J.run 0 K24_5 [(12, .int .i64 (i + 1)), (11, .int .i64 ln), (4, .int .i64 (b + 1)), (3, .slice ra1 ((ls ++ [b]).length) rc1), (1, .pointer (some ⟨b1, 0, none⟩))] w5 (by kernel_rfl) ?_
   exact ih1 _ (show (ln - (i + 1)).toNat < mm1 from by omega) ra1 rc1 (ls ++ [b]) (b + 1) (i + 1) w5 (by omega) (by omega) (by simp; omega) (by rw [seqF_snoc h0 hb, ← hls]) (iterB_next h0 hb (by simp [nextB, fk1, fk2, fk3])) (by omega) S7 rfl
  refine J.head (.bool false) (congrArg Value.bool (by rw [fk3]; rfl)) ?_
  refine J.run 5 K24_10 [(28, .int .i64 (Int.tmod b 8)), (3, .slice ra1 ((ls ++ [b]).length) rc1), (12, .int .i64 i), (11, .int .i64 ln), (4, .int .i64 b), (1, .pointer (some ⟨b1, 0, none⟩))] w5 (by kernel_rfl) ?_
  refine J.head (.int .i64 (b % 8)) (congrArg (Value.int .i64) (IntWalk.rem_in _ _ (by omega))) ?_
  refine J.run 3 K24_11 [(26, .bool ((b % 8) == 0)), (3, .slice ra1 ((ls ++ [b]).length) rc1), (12, .int .i64 i), (11, .int .i64 ln), (4, .int .i64 b), (1, .pointer (some ⟨b1, 0, none⟩))] w5 (by kernel_rfl) ?_
  by_cases fk4 : (b % 8) = 0
  ·skip
   refine J.head (.bool true) (congrArg Value.bool (beq_iff_eq.2 fk4)) ?_
   refine J.run 4 K24_12 [(31, .int .i64 (IntKind.wrap .i64 (b + 15))), (3, .slice ra1 ((ls ++ [b]).length) rc1), (12, .int .i64 i), (11, .int .i64 ln), (1, .pointer (some ⟨b1, 0, none⟩))] w5 (by kernel_rfl) ?_
   refine J.head (.int .i64 (b + 15)) (congrArg (Value.int .i64) (IntWalk.i64_in _ (by omega))) ?_
   refine J.run 6 K24_13 [(32, .int .i64 (IntKind.wrap .i64 (i + 1))), (4, .int .i64 (b + 15)), (3, .slice ra1 ((ls ++ [b]).length) rc1), (11, .int .i64 ln), (1, .pointer (some ⟨b1, 0, none⟩))] w5 (by kernel_rfl) ?_
   refine J.head (.int .i64 (i + 1)) (congrArg (Value.int .i64) (IntWalk.i64_in _ (by omega))) ?_
   refine J.run 3 K24_5 [(12, .int .i64 (i + 1)), (4, .int .i64 (b + 15)), (3, .slice ra1 ((ls ++ [b]).length) rc1), (11, .int .i64 ln), (1, .pointer (some ⟨b1, 0, none⟩))] w5 (by kernel_rfl) ?_
   refine J.run 0 K24_5 [(12, .int .i64 (i + 1)), (11, .int .i64 ln), (4, .int .i64 (b + 15)), (3, .slice ra1 ((ls ++ [b]).length) rc1), (1, .pointer (some ⟨b1, 0, none⟩))] w5 (by kernel_rfl) ?_
   exact ih1 _ (show (ln - (i + 1)).toNat < mm1 from by omega) ra1 rc1 (ls ++ [b]) (b + 15) (i + 1) w5 (by omega) (by omega) (by simp; omega) (by rw [seqF_snoc h0 hb, ← hls]) (iterB_next h0 hb (by simp [nextB, fk1, fk2, fk3, fk4])) (by omega) S7 rfl
  refine J.head (.bool false) (congrArg Value.bool (beq_eq_false_iff_ne.2 fk4)) ?_
  refine J.run 4 K24_14 [(19, .int .i64 (IntKind.wrap .i64 (b - 1))), (3, .slice ra1 ((ls ++ [b]).length) rc1), (12, .int .i64 i), (11, .int .i64 ln), (1, .pointer (some ⟨b1, 0, none⟩))] w5 (by kernel_rfl) ?_
  refine J.head (.int .i64 (b - 1)) (congrArg (Value.int .i64) (IntWalk.i64_in _ (by omega))) ?_
  refine J.run 6 K24_15 [(32, .int .i64 (IntKind.wrap .i64 (i + 1))), (4, .int .i64 (b - 1)), (3, .slice ra1 ((ls ++ [b]).length) rc1), (11, .int .i64 ln), (1, .pointer (some ⟨b1, 0, none⟩))] w5 (by kernel_rfl) ?_
  refine J.head (.int .i64 (i + 1)) (congrArg (Value.int .i64) (IntWalk.i64_in _ (by omega))) ?_
  refine J.run 3 K24_5 [(12, .int .i64 (i + 1)), (4, .int .i64 (b - 1)), (3, .slice ra1 ((ls ++ [b]).length) rc1), (11, .int .i64 ln), (1, .pointer (some ⟨b1, 0, none⟩))] w5 (by kernel_rfl) ?_
  refine J.run 0 K24_5 [(12, .int .i64 (i + 1)), (11, .int .i64 ln), (4, .int .i64 (b - 1)), (3, .slice ra1 ((ls ++ [b]).length) rc1), (1, .pointer (some ⟨b1, 0, none⟩))] w5 (by kernel_rfl) ?_
  exact ih1 _ (show (ln - (i + 1)).toNat < mm1 from by omega) ra1 rc1 (ls ++ [b]) (b - 1) (i + 1) w5 (by omega) (by omega) (by simp; omega) (by rw [seqF_snoc h0 hb, ← hls]) (iterB_next h0 hb (by simp [nextB, fk1, fk2, fk3, fk4])) (by omega) S7 rfl
 exact L24_1 _ none 0 ([]) st 0 w2 (by omega) (by omega) (rfl) (rfl) (rfl) (by omega) S3 rfl

theorem hb23 : HasBody Tryd.prog 23 := fun _ _ => by kernel_rfl
def K23_0 := adv 13 [] (bodyOf Tryd.f23)
def K23_1 := adv 11 [false] K23_0
def K23_2 := adv 5 [] K23_1
def K23_3 := adv 10 [true] K23_2
def K23_4 := adv 5 [false] (rRest K23_3)
def K23_5 := adv 5 [true] (rRest K23_3)
def K23_6 := adv 6 [false] K23_2
def K23_7 := adv 5 [true] K23_0
set_option maxRecDepth 20000 in
set_option maxHeartbeats 20000000 in
theorem equal_any (la : Option Addr) (len cap : Nat) (l : List Int) (ma : Option Addr) (mn mc : Nat) (ml : List Int) (w : World) (hI : Ints w la len l) (hJ : Ints w ma mn ml) (hlen : len ≤ 9223372036854775807) : Ret Tryd.prog 23 #[.slice la len cap, .slice ma mn mc] w (fun v w' => v = .bool (l == ml) ∧ Sep w [] w') := by
 have S0 := Sep.refl w
 refine Ret.named fun R hR => ?_
 refine Ret.of_J (N := 26) [(0, .slice la len cap), (1, .slice ma mn mc)] Tryd.func23 rfl rfl (Nat.le_of_ble_eq_true (by kernel_rfl)) (by kernel_rfl) ?_
 have hl2 := hI.len_eq
 have hm2 := hJ.len_eq
 refine J.run 13 K23_0 [(10, .bool ((len : Int) != (mn : Int))), (0, .slice la len cap), (1, .slice ma mn mc)] w (by kernel_rfl) ?_
 by_cases fk1 : (len : Int) = (mn : Int)
 rotate_left
 ·skip
  refine J.head (.bool true) (congrArg Value.bool (bne_iff_ne.2 fk1)) ?_
  refine J.run 5 K23_7 [(4, .bool false)] w (by kernel_rfl) ?_
  refine J.ret Tryd.f23 [.bool false] Tryd.func23 ⟨by kernel_rfl, trivial⟩ ?_
  refine hR _ _ ?_
  exact ⟨congrArg Value.bool (beq_no hl2 hm2 (by omega)).symm, S0.nil⟩
 refine J.head (.bool false) (congrArg Value.bool (bne_eq_false_iff_eq.2 fk1)) ?_
 refine J.run 11 K23_1 [(13, .int .i64 0), (12, .int .i64 (len : Int)), (0, .slice la len cap), (1, .slice ma mn mc)] w (by kernel_rfl) ?_
 have L23_1 : ∀ (mm_ : Nat) (i : Int) (w1 : World), (0 ≤ i) → (i ≤ (len : Int)) → (∀ j, j < (i).toNat → l.getD j 0 = ml.getD j 0) → Sep w [] w1 → ((len : Int) - i).toNat = mm_ → J Tryd.prog 23 26 R K23_1 [(13, .int .i64 i), (12, .int .i64 (len : Int)), (0, .slice la len cap), (1, .slice ma mn mc)] w1 := by
  intro mm1
  induction mm1 using Nat.strongRecOn with
  | _ mm1 ih1 =>
  intro i w1 h0 h1 hq S1 hm1
  refine J.run 5 K23_2 [(14, .bool (decide (i < (len : Int)))), (13, .int .i64 i), (12, .int .i64 (len : Int)), (0, .slice la len cap), (1, .slice ma mn mc)] w1 (by kernel_rfl) ?_
  by_cases fk2 : i < (len : Int)
  rotate_left
  ·skip
   refine J.head (.bool false) (congrArg Value.bool (decide_eq_false fk2)) ?_
   refine J.run 6 K23_6 [(4, .bool true)] w1 (by kernel_rfl) ?_
   refine J.ret Tryd.f23 [.bool true] Tryd.func23 ⟨by kernel_rfl, trivial⟩ ?_
   refine hR _ _ ?_
   exact ⟨congrArg Value.bool (beq_all (by omega) fun j hj => hq j (by omega)).symm, S1.nil⟩
  refine J.head (.bool true) (congrArg Value.bool (decide_eq_true fk2)) ?_
  refine J.run 10 K23_3 [(5, .int .i64 i), (13, .int .i64 i), (12, .int .i64 (len : Int)), (0, .slice la len cap), (1, .slice ma mn mc)] w1 (by kernel_rfl) ?_
  obtain ⟨p1, hp1, hc1⟩ := hI.at 0 (i).toNat (by omega)
  obtain ⟨p2, hp2, hc2⟩ := hJ.at 0 (i).toNat (by omega)
  refine J.drawStill S1 9 Tryd.mixed (by kernel_rfl) (by kernel_rfl) (by kernel_rfl) ?_
  intro w2 S2
  refine SL.ok (by decide) (OK.run 16 (.slice la len cap) (by kernel_rfl)) ?_
  refine SL.ok (by decide) (OK.run 17 (.int .i64 i) (by kernel_rfl)) ?_
  refine SL.ok (by decide) (OK.index 18 59 1 la p1 len (i).toNat i (p1.add (i).toNat) (by kernel_rfl) (by kernel_rfl) hp1 (by omega) (by omega) (by rw [Nat.mul_one])) ?_
  refine SL.ok (by decide) (OK.ldCell 19 3 (p1.add (i).toNat) (.int .i64 (l.getD (i).toNat 0)) (by kernel_rfl) (by kernel_rfl) (S2.cell hc1)) ?_
  refine SL.ok (by decide) (OK.run 20 (.slice ma mn mc) (by kernel_rfl)) ?_
  refine SL.ok (by decide) (OK.run 21 (.int .i64 i) (by kernel_rfl)) ?_
  refine SL.ok (by decide) (OK.index 22 59 1 ma p2 mn (i).toNat i (p2.add (i).toNat) (by kernel_rfl) (by kernel_rfl) hp2 (by omega) (by omega) (by rw [Nat.mul_one])) ?_
  refine SL.ok (by decide) (OK.ldCell 23 3 (p2.add (i).toNat) (.int .i64 (ml.getD (i).toNat 0)) (by kernel_rfl) (by kernel_rfl) (S2.cell hc2)) ?_
  refine SL.ok (by decide) (OK.run 24 (.bool ((l.getD (i).toNat 0) != (ml.getD (i).toNat 0))) (by kernel_rfl)) ?_
  refine SL.done ?_
  refine TL.done (by kernel_rfl) ?_
  refine J.run 0 (rRest K23_3) [(24, .bool ((l.getD (i).toNat 0) != (ml.getD (i).toNat 0))), (13, .int .i64 i), (12, .int .i64 (len : Int)), (0, .slice la len cap), (1, .slice ma mn mc)] w2 (by kernel_rfl) ?_
  by_cases fk3 : (l.getD (i).toNat 0) = (ml.getD (i).toNat 0)
  rotate_left
  ·skip
   refine J.head (.bool true) (congrArg Value.bool (bne_iff_ne.2 fk3)) ?_
   refine J.run 5 K23_5 [(4, .bool false)] w2 (by kernel_rfl) ?_
   refine J.ret Tryd.f23 [.bool false] Tryd.func23 ⟨by kernel_rfl, trivial⟩ ?_
   refine hR _ _ ?_
   exact ⟨congrArg Value.bool (beq_at (i := i.toNat) fk3).symm, S2.nil⟩
  refine J.head (.bool false) (congrArg Value.bool (bne_eq_false_iff_eq.2 fk3)) ?_
  refine J.run 5 K23_4 [(25, .int .i64 (IntKind.wrap .i64 (i + 1))), (12, .int .i64 (len : Int)), (0, .slice la len cap), (1, .slice ma mn mc)] w2 (by kernel_rfl) ?_
  refine J.head (.int .i64 (i + 1)) (congrArg (Value.int .i64) (IntWalk.i64_in _ (by omega))) ?_
  refine J.run 3 K23_1 [(13, .int .i64 (i + 1)), (12, .int .i64 (len : Int)), (0, .slice la len cap), (1, .slice ma mn mc)] w2 (by kernel_rfl) ?_
  refine J.run 0 K23_1 [(13, .int .i64 (i + 1)), (12, .int .i64 (len : Int)), (0, .slice la len cap), (1, .slice ma mn mc)] w2 (by kernel_rfl) ?_
  exact ih1 _ (show ((len : Int) - (i + 1)).toNat < mm1 from by omega) (i + 1) w2 (by omega) (by omega) (by intro j hj; by_cases e : j = i.toNat; (subst e; exact fk3); exact hq j (by omega)) S2 rfl
 exact L23_1 _ 0 w (by omega) (by omega) (by intro j hj; simp at hj) S0 rfl

theorem hb7 : HasBody Tryd.prog 7 := fun _ _ => by kernel_rfl
def K7_0 := adv 7 [] (bodyOf Tryd.f7)
def K7_1 := adv 3 [] (popK (popK K7_0))
def K7_2 := adv 4 [] (popK (popK (popK K7_1)))
def K7_3 := adv 1 [] (popK K7_2)
def K7_4 := adv 3 [] (popK K7_3)
def K7_5 := adv 1 [] (popK (popK (popK (popK K7_4))))
def K7_6 := adv 3 [] (popK (popK (popK (popK K7_5))))
set_option maxRecDepth 20000 in
set_option maxHeartbeats 20000000 in
theorem awake_any  (w : World) : Ret Tryd.prog 7 #[] w (fun v w' => v = .bool true ∧ Sep w [] w') := by
 have S0 := Sep.refl w
 refine Ret.named fun R hR => ?_
 refine Ret.of_J (N := 17) [] Tryd.func7 rfl rfl (Nat.le_of_ble_eq_true (by kernel_rfl)) (by kernel_rfl) ?_
 refine J.run 7 K7_0 [(3, .agg #[.string ⟨#[115]⟩, .int .i64 4, .int .i64 8, .bool false, .bool false, .int .i64 1, .int .i64 0, .int .i64 1, .int .i64 0, .int .i64 255])] w (by kernel_rfl) ?_
 refine J.new S0 1 [.string ByteArray.empty, .int .i64 0, .int .i64 0, .bool false, .bool false, .int .i64 0, .int .i64 0, .int .i64 0, .int .i64 0, .int .i64 0] 57 (by kernel_rfl) ?_
 intro b1 w1 S1
 refine J.stBox S1 0 57 0 (.agg #[.string ⟨#[115]⟩, .int .i64 4, .int .i64 8, .bool false, .bool false, .int .i64 1, .int .i64 0, .int .i64 1, .int .i64 0, .int .i64 255]) [.string ⟨#[115]⟩, .int .i64 4, .int .i64 8, .bool false, .bool false, .int .i64 1, .int .i64 0, .int .i64 1, .int .i64 0, .int .i64 255] [box b1 [.string ⟨#[115]⟩, .int .i64 4, .int .i64 8, .bool false, .bool false, .int .i64 1, .int .i64 0, .int .i64 1, .int .i64 0, .int .i64 255] 57] (by kernel_rfl) rfl (by kernel_rfl) (by kernel_rfl) rfl ?_
 intro w2 S2
 refine J.run 3 K7_1 [(1, .pointer (some ⟨b1, 0, none⟩))] w2 (by kernel_rfl) ?_
 refine J.ok (OK.ldBox S2 0 4 57 0 (.agg #[.string ⟨#[115]⟩, .int .i64 4, .int .i64 8, .bool false, .bool false, .int .i64 1, .int .i64 0, .int .i64 1, .int .i64 0, .int .i64 255]) (by kernel_rfl) rfl (by kernel_rfl)) ?_
 refine J.new S2 2 [.string ByteArray.empty, .int .i64 0, .int .i64 0, .bool false, .bool false, .int .i64 0, .int .i64 0, .int .i64 0, .int .i64 0, .int .i64 0] 57 (by kernel_rfl) ?_
 intro b2 w3 S3
 refine J.stBox S3 0 57 0 (.agg #[.string ⟨#[115]⟩, .int .i64 4, .int .i64 8, .bool false, .bool false, .int .i64 1, .int .i64 0, .int .i64 1, .int .i64 0, .int .i64 255]) [.string ⟨#[115]⟩, .int .i64 4, .int .i64 8, .bool false, .bool false, .int .i64 1, .int .i64 0, .int .i64 1, .int .i64 0, .int .i64 255] [box b2 [.string ⟨#[115]⟩, .int .i64 4, .int .i64 8, .bool false, .bool false, .int .i64 1, .int .i64 0, .int .i64 1, .int .i64 0, .int .i64 255] 57, box b1 [.string ⟨#[115]⟩, .int .i64 4, .int .i64 8, .bool false, .bool false, .int .i64 1, .int .i64 0, .int .i64 1, .int .i64 0, .int .i64 255] 57] (by kernel_rfl) rfl (by kernel_rfl) (by kernel_rfl) rfl ?_
 intro w4 S4
 refine J.run 4 K7_2 [(5, .pointer (some ⟨b2, 3, none⟩)), (2, .pointer (some ⟨b2, 0, none⟩)), (1, .pointer (some ⟨b1, 0, none⟩))] w4 (by kernel_rfl) ?_
 refine J.stBox S4 0 4 3 (.bool true) [.string ⟨#[115]⟩, .int .i64 4, .int .i64 8, .bool true, .bool false, .int .i64 1, .int .i64 0, .int .i64 1, .int .i64 0, .int .i64 255] [box b2 [.string ⟨#[115]⟩, .int .i64 4, .int .i64 8, .bool true, .bool false, .int .i64 1, .int .i64 0, .int .i64 1, .int .i64 0, .int .i64 255] 57, box b1 [.string ⟨#[115]⟩, .int .i64 4, .int .i64 8, .bool false, .bool false, .int .i64 1, .int .i64 0, .int .i64 1, .int .i64 0, .int .i64 255] 57] (by kernel_rfl) rfl (by kernel_rfl) (by kernel_rfl) rfl ?_
 intro w5 S5
 refine J.run 1 K7_3 [(6, .pointer (some ⟨b2, 1, none⟩)), (2, .pointer (some ⟨b2, 0, none⟩)), (1, .pointer (some ⟨b1, 0, none⟩))] w5 (by kernel_rfl) ?_
 refine J.stBox S5 0 3 1 (.int .i64 3) [.string ⟨#[115]⟩, .int .i64 3, .int .i64 8, .bool true, .bool false, .int .i64 1, .int .i64 0, .int .i64 1, .int .i64 0, .int .i64 255] [box b2 [.string ⟨#[115]⟩, .int .i64 3, .int .i64 8, .bool true, .bool false, .int .i64 1, .int .i64 0, .int .i64 1, .int .i64 0, .int .i64 255] 57, box b1 [.string ⟨#[115]⟩, .int .i64 4, .int .i64 8, .bool false, .bool false, .int .i64 1, .int .i64 0, .int .i64 1, .int .i64 0, .int .i64 255] 57] (by kernel_rfl) rfl (by kernel_rfl) (by kernel_rfl) rfl ?_
 intro w6 S6
 refine J.run 3 K7_4 [(2, .pointer (some ⟨b2, 0, none⟩)), (1, .pointer (some ⟨b1, 0, none⟩))] w6 (by kernel_rfl) ?_
 refine J.ok (OK.ldBox S6 1 7 57 0 (.agg #[.string ⟨#[115]⟩, .int .i64 4, .int .i64 8, .bool false, .bool false, .int .i64 1, .int .i64 0, .int .i64 1, .int .i64 0, .int .i64 255]) (by kernel_rfl) rfl (by kernel_rfl)) ?_
 refine J.callF 8 24 #[.agg #[.string ⟨#[115]⟩, .int .i64 4, .int .i64 8, .bool false, .bool false, .int .i64 1, .int .i64 0, .int .i64 1, .int .i64 0, .int .i64 255]] hb24 (by kernel_rfl) (bits_any (⟨#[115]⟩ : ByteArray) 4 8 false false 1 0 1 0 255 _ (by first | omega | decide)) ?_
 rintro _ w7 ⟨ra1, rc1, rfl, T1⟩
 have S7 : Sep w [rowOf encI ra1 rc1 3 1 (bitsF (⟨#[115]⟩ : ByteArray) 4 8 false false 1 0 1 0 255), box b2 [.string ⟨#[115]⟩, .int .i64 3, .int .i64 8, .bool true, .bool false, .int .i64 1, .int .i64 0, .int .i64 1, .int .i64 0, .int .i64 255] 57, box b1 [.string ⟨#[115]⟩, .int .i64 4, .int .i64 8, .bool false, .bool false, .int .i64 1, .int .i64 0, .int .i64 1, .int .i64 0, .int .i64 255] 57] w7 := S6.trans T1
 clear T1 S6
 refine J.newSlice S7 9 8 [.int .i64 4, .int .i64 5, .int .i64 6, .int .i64 7, .int .i64 8, .int .i64 9, .int .i64 10, .int .i64 11] 3 (by kernel_rfl) ?_
 intro b3 w8 S8
 have := rowOf_len (S8.nth 1 rfl)
 refine J.callF 10 23 #[.slice ra1 ((bitsF (⟨#[115]⟩ : ByteArray) 4 8 false false 1 0 1 0 255).length) rc1, .slice (some ⟨b3, 0, none⟩) 8 8] hb23 (by kernel_rfl) (equal_any ra1 ((bitsF (⟨#[115]⟩ : ByteArray) 4 8 false false 1 0 1 0 255).length) rc1 (bitsF (⟨#[115]⟩ : ByteArray) 4 8 false false 1 0 1 0 255) (some ⟨b3, 0, none⟩) 8 8 ([4, 5, 6, 7, 8, 9, 10, 11]) _ ((row1_ones (S8.nth 1 rfl) ((bitsF (⟨#[115]⟩ : ByteArray) 4 8 false false 1 0 1 0 255).length) (by first | rfl | omega | simp))) ((box_ints [4, 5, 6, 7, 8, 9, 10, 11] (S8.nth 0 rfl) rfl 8 rfl)) (by first | omega | (simp; omega))) ?_
 rintro _ w9 ⟨rfl, T2⟩
 have S9 : Sep w [box b3 [.int .i64 4, .int .i64 5, .int .i64 6, .int .i64 7, .int .i64 8, .int .i64 9, .int .i64 10, .int .i64 11] 3, rowOf encI ra1 rc1 3 1 (bitsF (⟨#[115]⟩ : ByteArray) 4 8 false false 1 0 1 0 255), box b2 [.string ⟨#[115]⟩, .int .i64 3, .int .i64 8, .bool true, .bool false, .int .i64 1, .int .i64 0, .int .i64 1, .int .i64 0, .int .i64 255] 57, box b1 [.string ⟨#[115]⟩, .int .i64 4, .int .i64 8, .bool false, .bool false, .int .i64 1, .int .i64 0, .int .i64 1, .int .i64 0, .int .i64 255] 57] w9 := S8.trans T2
 clear T2 S8
 refine J.run 1 K7_5 [(11, .bool ((bitsF (⟨#[115]⟩ : ByteArray) 4 8 false false 1 0 1 0 255) == ([4, 5, 6, 7, 8, 9, 10, 11]))), (2, .pointer (some ⟨b2, 0, none⟩))] w9 (by kernel_rfl) ?_
 have fk2 : ((bitsF (⟨#[115]⟩ : ByteArray) 4 8 false false 1 0 1 0 255) == ([4, 5, 6, 7, 8, 9, 10, 11])) = true := by decide +kernel
 refine J.head (.bool true) (congrArg Value.bool fk2) ?_
 refine J.ok (OK.ldBox S9 2 12 57 0 (.agg #[.string ⟨#[115]⟩, .int .i64 3, .int .i64 8, .bool true, .bool false, .int .i64 1, .int .i64 0, .int .i64 1, .int .i64 0, .int .i64 255]) (by kernel_rfl) rfl (by kernel_rfl)) ?_
 refine J.callF 13 24 #[.agg #[.string ⟨#[115]⟩, .int .i64 3, .int .i64 8, .bool true, .bool false, .int .i64 1, .int .i64 0, .int .i64 1, .int .i64 0, .int .i64 255]] hb24 (by kernel_rfl) (bits_any (⟨#[115]⟩ : ByteArray) 3 8 true false 1 0 1 0 255 _ (by first | omega | decide)) ?_
 rintro _ w10 ⟨ra2, rc2, rfl, T3⟩
 have S10 : Sep w [rowOf encI ra2 rc2 3 1 (bitsF (⟨#[115]⟩ : ByteArray) 3 8 true false 1 0 1 0 255), box b3 [.int .i64 4, .int .i64 5, .int .i64 6, .int .i64 7, .int .i64 8, .int .i64 9, .int .i64 10, .int .i64 11] 3, rowOf encI ra1 rc1 3 1 (bitsF (⟨#[115]⟩ : ByteArray) 4 8 false false 1 0 1 0 255), box b2 [.string ⟨#[115]⟩, .int .i64 3, .int .i64 8, .bool true, .bool false, .int .i64 1, .int .i64 0, .int .i64 1, .int .i64 0, .int .i64 255] 57, box b1 [.string ⟨#[115]⟩, .int .i64 4, .int .i64 8, .bool false, .bool false, .int .i64 1, .int .i64 0, .int .i64 1, .int .i64 0, .int .i64 255] 57] w10 := S9.trans T3
 clear T3 S9
 refine J.newSlice S10 14 8 [.int .i64 12, .int .i64 13, .int .i64 14, .int .i64 15, .int .i64 0, .int .i64 1, .int .i64 2, .int .i64 3] 3 (by kernel_rfl) ?_
 intro b4 w11 S11
 have := rowOf_len (S11.nth 1 rfl)
 refine J.callF 15 23 #[.slice ra2 ((bitsF (⟨#[115]⟩ : ByteArray) 3 8 true false 1 0 1 0 255).length) rc2, .slice (some ⟨b4, 0, none⟩) 8 8] hb23 (by kernel_rfl) (equal_any ra2 ((bitsF (⟨#[115]⟩ : ByteArray) 3 8 true false 1 0 1 0 255).length) rc2 (bitsF (⟨#[115]⟩ : ByteArray) 3 8 true false 1 0 1 0 255) (some ⟨b4, 0, none⟩) 8 8 ([12, 13, 14, 15, 0, 1, 2, 3]) _ ((row1_ones (S11.nth 1 rfl) ((bitsF (⟨#[115]⟩ : ByteArray) 3 8 true false 1 0 1 0 255).length) (by first | rfl | omega | simp))) ((box_ints [12, 13, 14, 15, 0, 1, 2, 3] (S11.nth 0 rfl) rfl 8 rfl)) (by first | omega | (simp; omega))) ?_
 rintro _ w12 ⟨rfl, T4⟩
 have S12 : Sep w [box b4 [.int .i64 12, .int .i64 13, .int .i64 14, .int .i64 15, .int .i64 0, .int .i64 1, .int .i64 2, .int .i64 3] 3, rowOf encI ra2 rc2 3 1 (bitsF (⟨#[115]⟩ : ByteArray) 3 8 true false 1 0 1 0 255), box b3 [.int .i64 4, .int .i64 5, .int .i64 6, .int .i64 7, .int .i64 8, .int .i64 9, .int .i64 10, .int .i64 11] 3, rowOf encI ra1 rc1 3 1 (bitsF (⟨#[115]⟩ : ByteArray) 4 8 false false 1 0 1 0 255), box b2 [.string ⟨#[115]⟩, .int .i64 3, .int .i64 8, .bool true, .bool false, .int .i64 1, .int .i64 0, .int .i64 1, .int .i64 0, .int .i64 255] 57, box b1 [.string ⟨#[115]⟩, .int .i64 4, .int .i64 8, .bool false, .bool false, .int .i64 1, .int .i64 0, .int .i64 1, .int .i64 0, .int .i64 255] 57] w12 := S11.trans T4
 clear T4 S11
 refine J.run 3 K7_6 [(0, .bool ((bitsF (⟨#[115]⟩ : ByteArray) 3 8 true false 1 0 1 0 255) == ([12, 13, 14, 15, 0, 1, 2, 3])))] w12 (by kernel_rfl) ?_
 refine J.ret Tryd.f7 [.bool ((bitsF (⟨#[115]⟩ : ByteArray) 3 8 true false 1 0 1 0 255) == ([12, 13, 14, 15, 0, 1, 2, 3]))] Tryd.func7 ⟨by kernel_rfl, trivial⟩ ?_
 refine hR _ _ ?_
 exact ⟨congrArg Value.bool (by decide +kernel), S12.nil⟩

end
end Go.Proofs.YthiklimfffhbaaaDoor

