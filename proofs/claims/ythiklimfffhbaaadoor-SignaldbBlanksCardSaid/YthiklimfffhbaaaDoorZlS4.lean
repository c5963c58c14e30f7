/- Walks of functions of this seat, printed by a program over the engine. Conditions: as each theorem says. -/
import Derived.Test.YthiklimfffhbaaaDoorZlS3
namespace Go.Proofs.YthiklimfffhbaaaDoor
noncomputable section
open Go.Eng Go.RowKit
set_option linter.unusedSimpArgs false
set_option linter.unusedVariables false
def eqT (a b : ByteArray) : Bool := a.toList == b.toList
/-- the first that is not all right -/
def pickF (n : Nat) (r : Nat → ByteArray × Int) : ByteArray × Int := match (List.range n).find? (fun k => (r k).2 != 0) with
  | some k => r k
  | none => (ByteArray.empty, 0)
theorem pick_at {n : Nat} {r : Nat → ByteArray × Int} {i : Nat} (hi : i < n) (hq : ∀ j, j < i → (r j).2 = 0) (h : (r i).2 ≠ 0) : pickF n r = r i := by
  have : (List.range n).find? (fun k => (r k).2 != 0) = some i := by
    rw [List.find?_eq_some_iff_getElem]
    refine ⟨by simpa using h, i, by simpa using hi, by simp, fun j hj => ?_⟩
    have := hq j hj
    simp [this]
  unfold pickF; rw [this]
theorem pick_none {n : Nat} {r : Nat → ByteArray × Int} (hq : ∀ j, j < n → (r j).2 = 0) : pickF n r = (ByteArray.empty, 0) := by
  have : (List.range n).find? (fun k => (r k).2 != 0) = none := by
    rw [List.find?_eq_none]
    intro j hj
    have := hq j (by simpa using hj)
    simp [this]
  unfold pickF; rw [this]
/-- the bits as a number -/
def maskN (l : List Int) : Nat := l.foldl (fun a b => a ||| 2 ^ b.toNat) 0
theorem maskN_snoc (l : List Int) (b : Int) : maskN (l ++ [b]) = maskN l ||| 2 ^ b.toNat := by simp [maskN, List.foldl_append]
theorem mask_fold (l : List Int) (a k : Nat) : (l.foldl (fun a b => a ||| 2 ^ b.toNat) a).testBit k = (a.testBit k || l.any fun b => b.toNat == k) := by
  induction l generalizing a with
  | nil => simp
  | cons b l ih => rw [List.foldl_cons, ih, Nat.testBit_or, Nat.testBit_two_pow, List.any_cons, Bool.or_assoc]; congr 2
theorem maskN_bit (l : List Int) (k : Nat) : (maskN l).testBit k = l.any fun b => b.toNat == k := by unfold maskN; rw [mask_fold]; simp
theorem maskN_lt {l : List Int} (h : ∀ b ∈ l, b.toNat < 64) : maskN l < 2 ^ 64 := by
  refine Nat.lt_pow_two_of_testBit _ fun k hk => ?_
  rw [maskN_bit, List.any_eq_false]
  intro b hb
  have := h b hb
  simp; omega
theorem or_u64 {x y : Nat} (hx : x < 2 ^ 64) (hy : y < 2 ^ 64) : IntKind.wrap .u64 ((BitVec.ofInt 64 (x : Int) ||| BitVec.ofInt 64 (y : Int)).toNat : Int) = ((x ||| y : Nat) : Int) := by
  have h : (BitVec.ofInt 64 (x : Int) ||| BitVec.ofInt 64 (y : Int)).toNat = x ||| y := by
    rw [BitVec.toNat_or, BitVec.ofInt_natCast, BitVec.ofInt_natCast, BitVec.toNat_ofNat, BitVec.toNat_ofNat, Nat.mod_eq_of_lt (by omega), Nat.mod_eq_of_lt (by omega)]
  rw [h]
  have := Nat.or_lt_two_pow hx hy
  exact IntWalk.u64_in _ (by omega)
theorem and_u64 {x y : Nat} (hx : x < 2 ^ 64) (hy : y < 2 ^ 64) : IntKind.wrap .u64 ((BitVec.ofInt 64 (x : Int) &&& BitVec.ofInt 64 (y : Int)).toNat : Int) = ((x &&& y : Nat) : Int) := by
  have h : (BitVec.ofInt 64 (x : Int) &&& BitVec.ofInt 64 (y : Int)).toNat = x &&& y := by
    rw [BitVec.toNat_and, BitVec.ofInt_natCast, BitVec.ofInt_natCast, BitVec.toNat_ofNat, BitVec.toNat_ofNat, Nat.mod_eq_of_lt (by omega), Nat.mod_eq_of_lt (by omega)]
  rw [h]
  have : x &&& y ≤ x := Nat.and_le_left
  exact IntWalk.u64_in _ (by omega)
theorem shl_u64 {b : Int} (h0 : 0 ≤ b) (h : b ≤ 63) : IntKind.wrap .u64 (1 * 2 ^ min b.toNat (IntKind.bits .u64)) = ((2 ^ b.toNat : Nat) : Int) := by
  rw [show min b.toNat (IntKind.bits .u64) = b.toNat from Nat.min_eq_left (show b.toNat ≤ 64 by omega), Int.one_mul]
  have h1 : (2 : Nat) ^ b.toNat ≤ 2 ^ 63 := Nat.pow_le_pow_right (by omega) (by omega)
  rw [Int.natCast_pow]
  have h2 : ((2 ^ b.toNat : Nat) : Int) = (2 : Int) ^ b.toNat := by rw [Int.natCast_pow]; rfl
  exact IntWalk.u64_in _ (by
    have h3 : (0 : Int) < 2 ^ b.toNat := Int.pow_pos (by omega)
    omega)
def guardN (g : Bool) : Nat := if g then 4095 else 0
theorem guard_bit {g : Bool} {b : Int} (h0 : 0 ≤ b) (h : b ≤ 63) : Int.fdiv ((guardN g : Nat) : Int) (2 ^ min b.toNat (IntKind.bits .u64)) = ((guardN g / 2 ^ b.toNat : Nat) : Int) := by
  rw [show min b.toNat (IntKind.bits .u64) = b.toNat from Nat.min_eq_left (show b.toNat ≤ 64 by omega), Int.fdiv_eq_ediv_of_nonneg _ (Int.le_of_lt (Int.pow_pos (by omega)))]
  rw [Int.natCast_ediv, Int.natCast_pow]; rfl
theorem guard_iff {g : Bool} {b : Int} (h0 : 0 ≤ b) : (((guardN g / 2 ^ b.toNat : Nat) : Int) % 2 = 1) ↔ (g = true ∧ b < 12) := by
  have e : (((guardN g / 2 ^ b.toNat : Nat) : Int) % 2 = 1) ↔ (guardN g).testBit b.toNat = true := by
    rw [Nat.testBit_eq_decide_div_mod_eq, decide_eq_true_eq]; omega
  rw [e]
  cases g with
  | false => simp [guardN]
  | true =>
    simp only [guardN, if_true, true_and]
    rw [show 4095 = 2 ^ 12 - 1 by rfl, Nat.testBit_two_pow_sub_one, decide_eq_true_eq]; omega
theorem disj_iff {l : List Int} {m : Nat} : (maskN l &&& m = 0) ↔ ∀ b ∈ l, m.testBit b.toNat = false := by
  constructor
  · intro h b hb
    have := congrArg (fun x => x.testBit b.toNat) h
    simp only [Nat.testBit_and, maskN_bit, Nat.zero_testBit] at this
    have h2 : (l.any fun c => c.toNat == b.toNat) = true := List.any_eq_true.2 ⟨b, hb, by simp⟩
    rw [h2] at this; simpa using this
  · intro h
    apply Nat.eq_of_testBit_eq
    intro k
    rw [Nat.testBit_and, maskN_bit, Nat.zero_testBit]
    cases hk : l.any (fun b => b.toNat == k) with
    | false => rfl
    | true =>
      obtain ⟨b, hb, he⟩ := List.any_eq_true.1 hk
      rw [beq_iff_eq] at he
      subst he; simp [h b hb]

structure Sig where
  gName : ByteArray
  gStart : Int
  gLength : Int
  gMotorola : Bool
  gSigned : Bool
  gNum : Int
  gOff : Int
  gDen : Int
  gLow : Int
  gHigh : Int
def sigE (x : Sig) : List Value := [.string x.gName, .int .i64 x.gStart, .int .i64 x.gLength, .bool x.gMotorola, .bool x.gSigned, .int .i64 x.gNum, .int .i64 x.gOff, .int .i64 x.gDen, .int .i64 x.gLow, .int .i64 x.gHigh]
def sigQ (w : World) (x : Sig) : Prop := x.gName.size ≤ 9223372036854775807 ∧ ((-9223372036854775808) ≤ x.gStart ∧ x.gStart ≤ 9223372036854775807) ∧ ((-9223372036854775808) ≤ x.gLength ∧ x.gLength ≤ 9223372036854775807) ∧ ((-9223372036854775808) ≤ x.gNum ∧ x.gNum ≤ 9223372036854775807) ∧ ((-9223372036854775808) ≤ x.gOff ∧ x.gOff ≤ 9223372036854775807) ∧ ((-9223372036854775808) ≤ x.gDen ∧ x.gDen ≤ 9223372036854775807) ∧ ((-9223372036854775808) ≤ x.gLow ∧ x.gLow ≤ 9223372036854775807) ∧ ((-9223372036854775808) ≤ x.gHigh ∧ x.gHigh ≤ 9223372036854775807) ∧ True
theorem sigQ_sep {w0 w : World} {L : List Eng.Claim} {x : Sig} (h : sigQ w0 x) (S : Sep w0 L w) : sigQ w x := by
  obtain ⟨hgName, hgStart, hgLength, hgNum, hgOff, hgDen, hgLow, hgHigh, _⟩ := h
  exact ⟨hgName, hgStart, hgLength, hgNum, hgOff, hgDen, hgLow, hgHigh, trivial⟩
structure Frm where
  gName : ByteArray
  gID : Int
  gLength : Int
  gGuarded : Bool
  gSignals_a : Option Addr
  gSignals_n : Nat
  gSignals_c : Nat
  gSignals_l : List Sig
def frmE (x : Frm) : List Value := [.string x.gName, .int .i64 x.gID, .int .i64 x.gLength, .bool x.gGuarded, .slice x.gSignals_a x.gSignals_n x.gSignals_c]
def frmQ (w : World) (x : Frm) : Prop := x.gName.size ≤ 9223372036854775807 ∧ ((-9223372036854775808) ≤ x.gID ∧ x.gID ≤ 9223372036854775807) ∧ ((-9223372036854775808) ≤ x.gLength ∧ x.gLength ≤ 9223372036854775807) ∧ (x.gSignals_n ≤ x.gSignals_c ∧ x.gSignals_c ≤ 9223372036854775807) ∧ Recs sigE 10 w x.gSignals_a x.gSignals_n x.gSignals_l ∧ (∀ y ∈ x.gSignals_l, (sigQ w) y) ∧ True
theorem frmQ_sep {w0 w : World} {L : List Eng.Claim} {x : Frm} (h : frmQ w0 x) (S : Sep w0 L w) : frmQ w x := by
  obtain ⟨hgName, hgID, hgLength, hgSignals1, hgSignals2, hgSignals3, _⟩ := h
  exact ⟨hgName, hgID, hgLength, hgSignals1, hgSignals2.sep S, fun y hy => sigQ_sep (hgSignals3 y hy) S, trivial⟩
structure Db where
  gFrames_a : Option Addr
  gFrames_n : Nat
  gFrames_c : Nat
  gFrames_l : List Frm
def dbQ (w : World) (x : Db) : Prop := (x.gFrames_n ≤ x.gFrames_c ∧ x.gFrames_c ≤ 9223372036854775807) ∧ Recs frmE 5 w x.gFrames_a x.gFrames_n x.gFrames_l ∧ (∀ y ∈ x.gFrames_l, (frmQ w) y) ∧ True
def sig0 : Sig := ⟨ByteArray.empty, 0, 0, false, false, 0, 0, 0, 0, 0⟩
def frm0 : Frm := ⟨ByteArray.empty, 0, 0, false, none, 0, 0, []⟩
def sigOK (s : Sig) : Bool := sigB s.gName s.gStart s.gLength s.gMotorola s.gSigned s.gNum s.gOff s.gDen s.gLow s.gHigh
def sbits (s : Sig) : List Int := bitsF s.gName s.gStart s.gLength s.gMotorola s.gSigned s.gNum s.gOff s.gDen s.gLow s.gHigh
theorem sbits_pos {s : Sig} : ∀ b ∈ sbits s, 0 ≤ b ∧ b ≤ 543 := by
  intro b hb
  unfold sbits bitsF at hb
  split at hb
  · rename_i hv
    obtain ⟨h1, h2, _⟩ := sigB_facts hv
    have key : ∀ m, ∀ b ∈ seqF m s.gStart s.gLength.toNat, 0 ≤ b ∧ b ≤ 543 := by
      intro m b hb
      unfold seqF at hb
      obtain ⟨k, hk, rfl⟩ := List.mem_map.1 hb
      have := iter_bd m h2 k
      have hk : k < s.gLength.toNat := by simpa using hk
      omega
    split at hb
    · exact key true b (by simpa using hb)
    · exact key false b hb
  · cases hb
theorem sbits_len (s : Sig) : (sbits s).length ≤ 32 := by
  unfold sbits bitsF
  split
  · rename_i hv
    have := sigB_facts hv
    split
    · rw [List.length_reverse, seqF_length]; omega
    · rw [seqF_length]; omega
  · simp
theorem getD_mem {α : Type} {l : List α} {n : Nat} (d : α) (h : n < l.length) : l.getD n d ∈ l := by
  rw [List.getD_eq_getElem?_getD, List.getElem?_eq_getElem h]; exact List.getElem_mem h
/-- a bit that the frame has no place for -/
def outB (f : Frm) (b : Int) : Bool := decide (8 * f.gLength ≤ b) || (f.gGuarded && decide (b < 12))
/-- two signals share a bit -/
def lapB (s x : Sig) : Bool := (sbits x).any fun b => (sbits s).contains b
def sigErr (f : Frm) (k : Nat) : Int :=
  if sigOK (f.gSignals_l.getD k sig0) = false then 1 else if (sbits (f.gSignals_l.getD k sig0)).any (outB f) then 2 else
  if (f.gSignals_l.take k).any (fun x => eqT x.gName (f.gSignals_l.getD k sig0).gName || lapB (f.gSignals_l.getD k sig0) x) then 8 else 0
def sigR (f : Frm) (k : Nat) : ByteArray × Int := ((f.gSignals_l.getD k sig0).gName, sigErr f k)
def sigsF (f : Frm) : ByteArray × Int := pickF f.gSignals_l.length (sigR f)
/-- the bits that are taken before signal k -/
def tkN (f : Frm) : Nat → Nat
  | 0 => guardN f.gGuarded
  | k + 1 => tkN f k ||| maskN (sbits (f.gSignals_l.getD k sig0))
theorem tkN_bit (f : Frm) (k n : Nat) (hk : k ≤ f.gSignals_l.length) : (tkN f k).testBit n = ((guardN f.gGuarded).testBit n || (f.gSignals_l.take k).any fun x => (sbits x).any fun b => b.toNat == n) := by
  induction k with
  | zero => simp [tkN]
  | succ k ih =>
    have e : f.gSignals_l.take (k + 1) = f.gSignals_l.take k ++ [f.gSignals_l.getD k sig0] := by
      rw [List.take_succ_eq_append_getElem (by omega)]; simp [List.getD, show k < f.gSignals_l.length by omega]
    rw [tkN, Nat.testBit_or, ih (by omega), maskN_bit, e, List.any_append, List.any_cons, List.any_nil, Bool.or_false, Bool.or_assoc]
theorem tkN_lt {f : Frm} {k : Nat} (hk : k ≤ f.gSignals_l.length) (hL : f.gLength ≤ 8) (h : ∀ j, j < k → sigErr f j = 0) : tkN f k < 2 ^ 64 := by
  refine Nat.lt_pow_two_of_testBit _ fun n hn => ?_
  rw [tkN_bit f k n hk]
  have h1 : (guardN f.gGuarded).testBit n = false := by
    cases f.gGuarded
    · simp [guardN]
    · rw [show guardN true = 2 ^ 12 - 1 from rfl, Nat.testBit_two_pow_sub_one]; simp; omega
  rw [h1, Bool.false_or, List.any_eq_false]
  intro x hx
  obtain ⟨j, hj, rfl⟩ := List.mem_iff_getElem.1 hx
  simp only [List.length_take] at hj
  have hj' := h j (by omega)
  have e : (f.gSignals_l.take k)[j] = f.gSignals_l.getD j sig0 := by simp [List.getD, show j < f.gSignals_l.length by omega]
  rw [e]
  unfold sigErr at hj'
  split at hj'
  · omega
  split at hj'
  · omega
  rename_i h3
  simp only [Bool.not_eq_true, List.any_eq_false] at h3 ⊢
  intro b hb
  have h4 := h3 b hb
  simp only [outB, Bool.or_eq_false_iff, decide_eq_false_iff_not] at h4
  have h5 := sbits_pos b hb
  simp; omega
theorem own_lt {f : Frm} {s : Sig} (hL : f.gLength ≤ 8) {k : Nat} (hin : ∀ j, j < k → outB f ((sbits s).getD j 0) = false) (hk : k ≤ (sbits s).length) : maskN ((sbits s).take k) < 2 ^ 64 := by
  refine maskN_lt fun b hb => ?_
  obtain ⟨j, hj, rfl⟩ := List.mem_iff_getElem.1 hb
  simp only [List.length_take] at hj
  have h1 := hin j (by omega)
  have e : ((sbits s).take k)[j]'(by simp; omega) = (sbits s).getD j 0 := by simp [List.getD, show j < (sbits s).length by omega]
  rw [e]
  simp only [outB, Bool.or_eq_false_iff, decide_eq_false_iff_not] at h1
  have h2 := sbits_pos (s := s) _ (getD_mem (n := j) 0 (by omega))
  omega
theorem any_bits {l : List Int} {q : Int → Bool} {j : Nat} (hj : j < l.length) (h : q (l.getD j 0) = true) : l.any q = true := List.any_eq_true.2 ⟨_, getD_mem 0 hj, h⟩
theorem none_bits {l : List Int} {q : Int → Bool} (h : ∀ j, j < l.length → q (l.getD j 0) = false) : l.any q = false := by
  rw [List.any_eq_false]
  intro b hb
  obtain ⟨j, hj, rfl⟩ := List.mem_iff_getElem.1 hb
  have := h j hj
  simp [List.getD, hj] at this
  simp [this]
/-- what the masks tell -/
theorem lap_iff {f : Frm} {k : Nat} (hk : k < f.gSignals_l.length) (hin : (sbits (f.gSignals_l.getD k sig0)).any (outB f) = false) :
    (maskN (sbits (f.gSignals_l.getD k sig0)) &&& tkN f k = 0) ↔ (f.gSignals_l.take k).any (lapB (f.gSignals_l.getD k sig0)) = false := by
  rw [disj_iff, List.any_eq_false]
  have hg : ∀ b ∈ sbits (f.gSignals_l.getD k sig0), (guardN f.gGuarded).testBit b.toNat = false := by
    intro b hb
    rw [List.any_eq_false] at hin
    have h1 := hin b hb
    have h2 := sbits_pos b hb
    simp only [outB, Bool.or_eq_true, Bool.and_eq_true, decide_eq_true_eq, not_or, not_and] at h1
    cases hgd : f.gGuarded
    · simp [guardN]
    · have := h1.2 hgd
      rw [show guardN true = 2 ^ 12 - 1 from rfl, Nat.testBit_two_pow_sub_one]; simp; omega
  constructor
  · intro h x hx
    simp only [lapB, Bool.not_eq_true, List.any_eq_false]
    intro b hb
    cases hc : (sbits (f.gSignals_l.getD k sig0)).contains b with
    | false => rfl
    | true =>
      rw [List.contains_iff_mem] at hc
      have h1 := h b hc
      rw [tkN_bit f k _ (by omega), hg b hc, Bool.false_or, List.any_eq_false] at h1
      have h2 := h1 x hx
      simp only [Bool.not_eq_true, List.any_eq_false] at h2
      have h3 := h2 b hb
      simp at h3
  · intro h b hb
    rw [tkN_bit f k _ (by omega), hg b hb, Bool.false_or, List.any_eq_false]
    intro x hx
    have h1 := h x hx
    simp only [lapB, Bool.not_eq_true, List.any_eq_false] at h1 ⊢
    intro c hc
    rw [beq_eq_false_iff_ne]
    intro he
    have h2 := sbits_pos c hc
    have h3 := sbits_pos b hb
    have : c = b := by omega
    subst this
    have h4 := h1 c hc
    rw [List.contains_iff_mem.2 hb] at h4
    cases h4
theorem sig_e1 {f : Frm} {k : Nat} (h : sigOK (f.gSignals_l.getD k sig0) = false) : sigErr f k = 1 := by unfold sigErr; rw [if_pos h]
theorem sig_e2 {f : Frm} {k : Nat} (h : sigOK (f.gSignals_l.getD k sig0) = true) (h2 : (sbits (f.gSignals_l.getD k sig0)).any (outB f) = true) : sigErr f k = 2 := by unfold sigErr; rw [if_neg (by rw [h]; decide), if_pos h2]
theorem sig_e8 {f : Frm} {k : Nat} (h : sigOK (f.gSignals_l.getD k sig0) = true) (h2 : (sbits (f.gSignals_l.getD k sig0)).any (outB f) = false)
    (h3 : (f.gSignals_l.take k).any (fun x => eqT x.gName (f.gSignals_l.getD k sig0).gName) = true ∨ (f.gSignals_l.take k).any (lapB (f.gSignals_l.getD k sig0)) = true) : sigErr f k = 8 := by
  unfold sigErr
  rw [if_neg (by rw [h]; decide), if_neg (by rw [h2]; decide), if_pos]
  rcases h3 with h3 | h3
  · obtain ⟨x, hx, hq⟩ := List.any_eq_true.1 h3; exact List.any_eq_true.2 ⟨x, hx, by rw [hq, Bool.true_or]⟩
  · obtain ⟨x, hx, hq⟩ := List.any_eq_true.1 h3; exact List.any_eq_true.2 ⟨x, hx, by rw [hq, Bool.or_true]⟩
theorem sig_e0 {f : Frm} {k : Nat} (h : sigOK (f.gSignals_l.getD k sig0) = true) (h2 : (sbits (f.gSignals_l.getD k sig0)).any (outB f) = false)
    (h3 : (f.gSignals_l.take k).any (fun x => eqT x.gName (f.gSignals_l.getD k sig0).gName) = false) (h4 : (f.gSignals_l.take k).any (lapB (f.gSignals_l.getD k sig0)) = false) : sigErr f k = 0 := by
  unfold sigErr
  rw [if_neg (by rw [h]; decide), if_neg (by rw [h2]; decide), if_neg]
  rw [Bool.not_eq_true, List.any_eq_false]
  intro x hx
  rw [List.any_eq_false] at h3 h4
  have := h3 x hx; have := h4 x hx
  simp_all
theorem sigs_at {f : Frm} {k : Nat} {e : Int} (hi : k < f.gSignals_l.length) (hq : ∀ j, j < k → sigErr f j = 0) (h : sigErr f k = e) (h0 : e ≠ 0) : (sigsF f).1 = (f.gSignals_l.getD k sig0).gName ∧ (sigsF f).2 = e := by
  have : sigsF f = sigR f k := pick_at hi hq (by show sigErr f k ≠ 0; omega)
  rw [this]; exact ⟨rfl, h⟩
theorem sigs_none {f : Frm} (hq : ∀ j, j < f.gSignals_l.length → sigErr f j = 0) : (sigsF f).1 = ByteArray.empty ∧ (sigsF f).2 = 0 := by
  have : sigsF f = (ByteArray.empty, 0) := pick_none hq
  rw [this]; exact ⟨rfl, rfl⟩
theorem out_far {f : Frm} {b : Int} (h : 8 * f.gLength ≤ b) : outB f b = true := by unfold outB; rw [decide_eq_true h]; rfl
theorem out_guard {f : Frm} {b : Int} {g : Bool} (hg : f.gGuarded = g) (h0 : 0 ≤ b) (h : ((guardN g / 2 ^ b.toNat : Nat) : Int) % 2 = 1) : outB f b = true := by
  obtain ⟨h1, h2⟩ := (guard_iff h0).1 h
  unfold outB; rw [hg, h1, decide_eq_true h2]; simp
theorem out_no {f : Frm} {b : Int} {g : Bool} (hg : f.gGuarded = g) (h0 : 0 ≤ b) (h1 : ¬ 8 * f.gLength ≤ b) (h : ¬ ((guardN g / 2 ^ b.toNat : Nat) : Int) % 2 = 1) : outB f b = false := by
  unfold outB; rw [decide_eq_false h1, Bool.false_or]
  cases g with
  | false => rw [hg]; rfl
  | true =>
    have h2 : ¬ b < 12 := fun h3 => h ((guard_iff h0).2 ⟨rfl, h3⟩)
    rw [decide_eq_false h2]; simp
theorem bits_step {f : Frm} {l : List Int} {j : Int} (h0 : 0 ≤ j) (hin : ∀ k, k < j.toNat → outB f (l.getD k 0) = false) (h : outB f (l.getD j.toNat 0) = false) : ∀ k, k < (j + 1).toNat → outB f (l.getD k 0) = false := by
  intro k hk
  by_cases e : k = j.toNat
  · subst e; exact h
  · exact hin k (by omega)
theorem err_step {f : Frm} {i : Int} (h0 : 0 ≤ i) (hq : ∀ k, k < i.toNat → sigErr f k = 0) (h : sigErr f i.toNat = 0) : ∀ k, k < (i + 1).toNat → sigErr f k = 0 := by
  intro k hk
  by_cases e : k = i.toNat
  · subst e; exact h
  · exact hq k (by omega)
theorem take_getD {l : List Int} {j : Nat} (h : j < l.length) : l.take (j + 1) = l.take j ++ [l.getD j 0] := by
  rw [List.take_succ_eq_append_getElem h]; simp [List.getD, h]
theorem or_bits {f : Frm} {s : Sig} {j own : Int} (hL : f.gLength ≤ 8) (h0 : 0 ≤ j) (hj : j < ((sbits s).length : Int)) (hown : own = ((maskN ((sbits s).take j.toNat) : Nat) : Int)) (hin : ∀ k, k < j.toNat → outB f ((sbits s).getD k 0) = false) (hb : (sbits s).getD j.toNat 0 ≤ 63) :
    IntKind.wrap .u64 ((BitVec.ofInt 64 own ||| BitVec.ofInt 64 (((2 ^ ((sbits s).getD j.toNat 0).toNat : Nat) : Int))).toNat : Int) = ((maskN ((sbits s).take (j + 1).toNat) : Nat) : Int) := by
  rw [hown, or_u64 (own_lt hL hin (by omega)) (Nat.pow_lt_pow_right (by omega) (by have := sbits_pos (s := s) _ (getD_mem (n := j.toNat) 0 (by omega)); omega)), show (j + 1).toNat = j.toNat + 1 by omega, take_getD (by omega), maskN_snoc]
theorem own_all {s : Sig} {j own : Int} (hj : ¬ j < ((sbits s).length : Int)) (h1 : j ≤ ((sbits s).length : Int)) (hown : own = ((maskN ((sbits s).take j.toNat) : Nat) : Int)) : own = ((maskN (sbits s) : Nat) : Int) := by
  rw [hown, List.take_of_length_le (by omega)]
theorem own_all_lt {f : Frm} {s : Sig} (hL : f.gLength ≤ 8) (hin : (sbits s).any (outB f) = false) : maskN (sbits s) < 2 ^ 64 := by
  have := own_lt (s := s) hL (k := (sbits s).length) (fun j hj => by
    rw [List.any_eq_false] at hin
    have := hin _ (getD_mem (n := j) 0 hj)
    simpa using this) (Nat.le_refl _)
  rwa [List.take_of_length_le (Nat.le_refl _)] at this

theorem valid_rec (s : Sig) (w : World) (h : sigQ w s) : Ret Tryd.prog 52 #[.agg #[.string s.gName, .int .i64 s.gStart, .int .i64 s.gLength, .bool s.gMotorola, .bool s.gSigned, .int .i64 s.gNum, .int .i64 s.gOff, .int .i64 s.gDen, .int .i64 s.gLow, .int .i64 s.gHigh]] w (fun v w' => v = .bool (sigOK s) ∧ Sep w [] w') := valid_any s.gName s.gStart s.gLength s.gMotorola s.gSigned s.gNum s.gOff s.gDen s.gLow s.gHigh w h.1
theorem bits_rec (s : Sig) (w : World) (h : sigQ w s) : Ret Tryd.prog 24 #[.agg #[.string s.gName, .int .i64 s.gStart, .int .i64 s.gLength, .bool s.gMotorola, .bool s.gSigned, .int .i64 s.gNum, .int .i64 s.gOff, .int .i64 s.gDen, .int .i64 s.gLow, .int .i64 s.gHigh]] w (fun v w' => ∃ a cap, v = .slice a (sbits s).length cap ∧ Sep w [rowOf encI a cap 3 1 (sbits s)] w') := bits_any s.gName s.gStart s.gLength s.gMotorola s.gSigned s.gNum s.gOff s.gDen s.gLow s.gHigh w h.1
theorem hb85 : HasBody Tryd.prog 85 := fun _ _ => by kernel_rfl
def K85_0 := adv 2 [] (bodyOf Tryd.f85)
def K85_1 := adv 5 [] (popK K85_0)
def K85_2 := adv 1 [] (popK K85_1)
def K85_3 := adv 3 [] (popK K85_2)
set_option maxRecDepth 20000 in
set_option maxHeartbeats 20000000 in
theorem samename_any (s x : Sig) (bx : Nat) (w : World) (hb1 : (box bx [.string s.gName, .int .i64 s.gStart, .int .i64 s.gLength, .bool s.gMotorola, .bool s.gSigned, .int .i64 s.gNum, .int .i64 s.gOff, .int .i64 s.gDen, .int .i64 s.gLow, .int .i64 s.gHigh] 57).holds w) : Ret Tryd.prog 85 #[.agg #[.string x.gName, .int .i64 x.gStart, .int .i64 x.gLength, .bool x.gMotorola, .bool x.gSigned, .int .i64 x.gNum, .int .i64 x.gOff, .int .i64 x.gDen, .int .i64 x.gLow, .int .i64 x.gHigh], .pointer (some ⟨bx, 0, none⟩)] w (fun v w' => v = .bool (eqT x.gName s.gName) ∧ Sep w [] w') := by
 have S0 := Sep.refl w
 refine Ret.named fun R hR => ?_
 refine Ret.of_J (N := 9) [(0, .agg #[.string x.gName, .int .i64 x.gStart, .int .i64 x.gLength, .bool x.gMotorola, .bool x.gSigned, .int .i64 x.gNum, .int .i64 x.gOff, .int .i64 x.gDen, .int .i64 x.gLow, .int .i64 x.gHigh]), (1, .pointer (some ⟨bx, 0, none⟩))] Tryd.func85 rfl rfl (Nat.le_of_ble_eq_true (by kernel_rfl)) (by kernel_rfl) ?_
 refine J.run 2 K85_0 [(0, .agg #[.string x.gName, .int .i64 x.gStart, .int .i64 x.gLength, .bool x.gMotorola, .bool x.gSigned, .int .i64 x.gNum, .int .i64 x.gOff, .int .i64 x.gDen, .int .i64 x.gLow, .int .i64 x.gHigh]), (1, .pointer (some ⟨bx, 0, none⟩))] w (by kernel_rfl) ?_
 refine J.new S0 2 [.string x.gName, .int .i64 x.gStart, .int .i64 x.gLength, .bool x.gMotorola, .bool x.gSigned, .int .i64 x.gNum, .int .i64 x.gOff, .int .i64 x.gDen, .int .i64 x.gLow, .int .i64 x.gHigh] 57 (by kernel_rfl) ?_
 intro b1 w1 S1
 refine J.run 5 K85_1 [(4, .pointer (some ⟨b1, 0, none⟩)), (1, .pointer (some ⟨bx, 0, none⟩))] w1 (by kernel_rfl) ?_
 refine J.ok (OK.ldBox S1 0 5 9 0 (.string x.gName) (by kernel_rfl) rfl (by kernel_rfl)) ?_
 refine J.run 1 K85_2 [(6, .pointer (some ⟨bx, 0, none⟩)), (5, .string x.gName)] w1 (by kernel_rfl) ?_
 refine J.ok (OK.ldRo S1 hb1 7 9 0 (.string s.gName) (by kernel_rfl) (by kernel_rfl)) ?_
 refine J.run 3 K85_3 [(3, .bool (x.gName.toList == s.gName.toList))] w1 (by kernel_rfl) ?_
 refine J.ret Tryd.f85 [.bool (x.gName.toList == s.gName.toList)] Tryd.func85 ⟨by kernel_rfl, trivial⟩ ?_
 refine hR _ _ ?_
 exact ⟨rfl, S1.nil⟩

theorem hb55 : HasBody Tryd.prog 55 := fun _ _ => by kernel_rfl
def K55_0 := adv 13 [] (bodyOf Tryd.f55)
def K55_1 := adv 5 [] K55_0
def K55_2 := adv 14 [true] K55_1
def K55_3 := adv 1 [] (popK (popK (popK K55_2)))
def K55_4 := adv 6 [true] K55_3
def K55_5 := adv 5 [false] K55_3
def K55_6 := adv 6 [false] K55_1
set_option maxRecDepth 20000 in
set_option maxHeartbeats 20000000 in
theorem indexSg1 (la : Option Addr) (len cap : Nat) (l : List Sig) (g : FuncId) (c1 : Value) (q : Sig → Bool) (w : World) (hI : Recs sigE 10 w la len l) (hlen : len ≤ 9223372036854775807) (hbg : HasBody Tryd.prog g) (hcall : ∀ (i : Nat) (w2 : World), i < l.length → Sep w [] w2 → Ret Tryd.prog g #[.agg #[.string ((l.getD i sig0).gName), .int .i64 ((l.getD i sig0).gStart), .int .i64 ((l.getD i sig0).gLength), .bool ((l.getD i sig0).gMotorola), .bool ((l.getD i sig0).gSigned), .int .i64 ((l.getD i sig0).gNum), .int .i64 ((l.getD i sig0).gOff), .int .i64 ((l.getD i sig0).gDen), .int .i64 ((l.getD i sig0).gLow), .int .i64 ((l.getD i sig0).gHigh)], c1] w2 (fun v w3 => v = .bool (q (l.getD i sig0)) ∧ Sep w2 [] w3)) : Ret Tryd.prog 55 #[.slice la len cap, .func (.func g) #[] #[c1]] w (fun v w' => v = .int .i64 (indexF q l) ∧ Sep w [] w') := by
 have S0 := Sep.refl w
 refine Ret.named fun R hR => ?_
 refine Ret.of_J (N := 19) [(0, .slice la len cap), (1, .func (.func g) #[] #[c1])] Tryd.func55 rfl rfl (Nat.le_of_ble_eq_true (by kernel_rfl)) (by kernel_rfl) ?_
 refine J.run 13 K55_0 [(8, .int .i64 0), (7, .int .i64 (len : Int)), (0, .slice la len cap), (1, .func (.func g) #[] #[c1])] w (by kernel_rfl) ?_
 have L55_1 : ∀ (mm_ : Nat) (i : Int) (w1 : World), (0 ≤ i) → (i ≤ (len : Int)) → (∀ j, j < (i).toNat → q (l.getD j sig0) = false) → Sep w [] w1 → ((len : Int) - i).toNat = mm_ → J Tryd.prog 55 19 R K55_0 [(8, .int .i64 i), (7, .int .i64 (len : Int)), (0, .slice la len cap), (1, .func (.func g) #[] #[c1])] w1 := by
  intro mm1
  induction mm1 using Nat.strongRecOn with
  | _ mm1 ih1 =>
  intro i w1 h0 h1 hq S1 hm1
  refine J.run 5 K55_1 [(9, .bool (decide (i < (len : Int)))), (8, .int .i64 i), (7, .int .i64 (len : Int)), (0, .slice la len cap), (1, .func (.func g) #[] #[c1])] w1 (by kernel_rfl) ?_
  by_cases fk1 : i < (len : Int)
  rotate_left
  ·skip
   refine J.head (.bool false) (congrArg Value.bool (decide_eq_false fk1)) ?_
   refine J.run 6 K55_6 [(4, .int .i64 (-1))] w1 (by kernel_rfl) ?_
   refine J.ret Tryd.f55 [.int .i64 (-1)] Tryd.func55 ⟨by kernel_rfl, trivial⟩ ?_
   refine hR _ _ ?_
   exact ⟨by rw [tup_one, indexF_none sig0 fun j hj => hq j (by have := hI.len_eq; omega)], S1.nil⟩
  refine J.head (.bool true) (congrArg Value.bool (decide_eq_true fk1)) ?_
  refine J.run 14 K55_2 [(13, .int .i64 i), (12, .slice la len cap), (11, .func (.func g) #[] #[c1]), (5, .int .i64 i), (8, .int .i64 i), (7, .int .i64 (len : Int)), (0, .slice la len cap), (1, .func (.func g) #[] #[c1])] w1 (by kernel_rfl) ?_
  obtain ⟨p1, hp1, hc1⟩ := hI.at sig0 (i).toNat (by omega)
  refine J.ok (OK.index 14 32 10 la p1 len (i).toNat i (p1.add ((i).toNat * 10)) (by kernel_rfl) (by kernel_rfl) hp1 (by omega) (by omega) rfl) ?_
  refine J.ok (OK.ldCells 15 57 (p1.add ((i).toNat * 10)) [.string ((l.getD (i).toNat sig0).gName), .int .i64 ((l.getD (i).toNat sig0).gStart), .int .i64 ((l.getD (i).toNat sig0).gLength), .bool ((l.getD (i).toNat sig0).gMotorola), .bool ((l.getD (i).toNat sig0).gSigned), .int .i64 ((l.getD (i).toNat sig0).gNum), .int .i64 ((l.getD (i).toNat sig0).gOff), .int .i64 ((l.getD (i).toNat sig0).gDen), .int .i64 ((l.getD (i).toNat sig0).gLow), .int .i64 ((l.getD (i).toNat sig0).gHigh)] (by kernel_rfl) (by kernel_rfl) (by kernel_rfl) (fun j_ v_ hj_ => S1.cell (hc1 j_ v_ hj_))) ?_
  refine J.callF 16 g #[.agg #[.string ((l.getD (i).toNat sig0).gName), .int .i64 ((l.getD (i).toNat sig0).gStart), .int .i64 ((l.getD (i).toNat sig0).gLength), .bool ((l.getD (i).toNat sig0).gMotorola), .bool ((l.getD (i).toNat sig0).gSigned), .int .i64 ((l.getD (i).toNat sig0).gNum), .int .i64 ((l.getD (i).toNat sig0).gOff), .int .i64 ((l.getD (i).toNat sig0).gDen), .int .i64 ((l.getD (i).toNat sig0).gLow), .int .i64 ((l.getD (i).toNat sig0).gHigh)], c1] hbg (by kernel_rfl) (hcall (i).toNat w1 (by have := hI.len_eq; omega) S1.nil) ?_
  rintro _ w2 ⟨rfl, T1⟩
  have S2 : Sep w [] w2 := S1.trans T1
  clear T1 S1
  refine J.run 1 K55_3 [(16, .bool (q (l.getD (i).toNat sig0))), (5, .int .i64 i), (8, .int .i64 i), (7, .int .i64 (len : Int)), (0, .slice la len cap), (1, .func (.func g) #[] #[c1])] w2 (by kernel_rfl) ?_
  rcases Bool.eq_false_or_eq_true (q (l.getD (i).toNat sig0)) with fk2 | fk2
  ·skip
   refine J.head (.bool true) (congrArg Value.bool fk2) ?_
   refine J.run 6 K55_4 [(4, .int .i64 i)] w2 (by kernel_rfl) ?_
   refine J.ret Tryd.f55 [.int .i64 i] Tryd.func55 ⟨by kernel_rfl, trivial⟩ ?_
   refine hR _ _ ?_
   exact ⟨by rw [tup_one, indexF_some sig0 i.toNat (by have := hI.len_eq; omega) hq fk2, Int.toNat_of_nonneg h0], S2.nil⟩
  refine J.head (.bool false) (congrArg Value.bool fk2) ?_
  refine J.run 5 K55_5 [(18, .int .i64 (IntKind.wrap .i64 (i + 1))), (7, .int .i64 (len : Int)), (0, .slice la len cap), (1, .func (.func g) #[] #[c1])] w2 (by kernel_rfl) ?_
  refine J.head (.int .i64 (i + 1)) (congrArg (Value.int .i64) (IntWalk.i64_in _ (by omega))) ?_
  refine J.run 3 K55_0 [(8, .int .i64 (i + 1)), (7, .int .i64 (len : Int)), (0, .slice la len cap), (1, .func (.func g) #[] #[c1])] w2 (by kernel_rfl) ?_
  refine J.run 0 K55_0 [(8, .int .i64 (i + 1)), (7, .int .i64 (len : Int)), (0, .slice la len cap), (1, .func (.func g) #[] #[c1])] w2 (by kernel_rfl) ?_
  exact ih1 _ (show ((len : Int) - (i + 1)).toNat < mm1 from by omega) (i + 1) w2 (by omega) (by omega) (by intro j hj; by_cases e : j = i.toNat; (subst e; exact fk2); exact hq j (by omega)) S2 rfl
 exact L55_1 _ 0 w (by omega) (by omega) (by intro j hj; simp at hj) S0 rfl

theorem hb27 : HasBody Tryd.prog 27 := fun _ _ => by kernel_rfl
def K27_0 := adv 8 [] (bodyOf Tryd.f27)
def K27_1 := adv 3 [] (popK K27_0)
set_option maxRecDepth 20000 in
set_option maxHeartbeats 20000000 in
theorem containsSg1 (la : Option Addr) (len cap : Nat) (l : List Sig) (g : FuncId) (c1 : Value) (q : Sig → Bool) (w : World) (hI : Recs sigE 10 w la len l) (hlen : len ≤ 9223372036854775807) (hbg : HasBody Tryd.prog g) (hcall : ∀ (i : Nat) (w2 : World), i < l.length → Sep w [] w2 → Ret Tryd.prog g #[.agg #[.string ((l.getD i sig0).gName), .int .i64 ((l.getD i sig0).gStart), .int .i64 ((l.getD i sig0).gLength), .bool ((l.getD i sig0).gMotorola), .bool ((l.getD i sig0).gSigned), .int .i64 ((l.getD i sig0).gNum), .int .i64 ((l.getD i sig0).gOff), .int .i64 ((l.getD i sig0).gDen), .int .i64 ((l.getD i sig0).gLow), .int .i64 ((l.getD i sig0).gHigh)], c1] w2 (fun v w3 => v = .bool (q (l.getD i sig0)) ∧ Sep w2 [] w3)) : Ret Tryd.prog 27 #[.slice la len cap, .func (.func g) #[] #[c1]] w (fun v w' => v = .bool (l.any q) ∧ Sep w [] w') := by
 have S0 := Sep.refl w
 refine Ret.named fun R hR => ?_
 refine Ret.of_J (N := 9) [(0, .slice la len cap), (1, .func (.func g) #[] #[c1])] Tryd.func27 rfl rfl (Nat.le_of_ble_eq_true (by kernel_rfl)) (by kernel_rfl) ?_
 refine J.run 8 K27_0 [(6, .func (.func g) #[] #[c1]), (5, .slice la len cap)] w (by kernel_rfl) ?_
 refine J.callF 7 55 #[.slice la len cap, .func (.func g) #[] #[c1]] hb55 (by kernel_rfl) (indexSg1 la len cap l g c1 q _ (hI.sep S0) (by first | omega | (simp; omega)) hbg (hcall)) ?_
 rintro _ w1 ⟨rfl, T1⟩
 have S1 : Sep w [] w1 := S0.trans T1
 clear T1
 refine J.run 3 K27_1 [(4, .bool (decide ((indexF q l) ≥ 0)))] w1 (by kernel_rfl) ?_
 refine J.ret Tryd.f27 [.bool (decide ((indexF q l) ≥ 0))] Tryd.func27 ⟨by kernel_rfl, trivial⟩ ?_
 refine hR _ _ ?_
 exact ⟨congrArg Value.bool (by first | exact indexF_nonneg), S1.nil⟩

theorem hb66 : HasBody Tryd.prog 66 := fun _ _ => by kernel_rfl
def K66_0 := adv 2 [] (bodyOf Tryd.f66)
def K66_1 := adv 11 [] (popK K66_0)
def K66_2 := adv 1 [] (popK K66_1)
def K66_3 := adv 13 [true] K66_2
def K66_4 := adv 5 [] (popK K66_3)
def K66_5 := adv 5 [] K66_4
def K66_6 := adv 7 [true] K66_5
def K66_7 := adv 1 [] (popK (popK (popK K66_6)))
def K66_8 := adv 4 [] (popK K66_7)
def K66_9 := adv 2 [] (popK (popK K66_8))
def K66_10 := adv 9 [false] K66_9
def K66_11 := adv 5 [] (popK (popK K66_10))
def K66_12 := adv 5 [] K66_11
def K66_13 := adv 6 [true] K66_12
def K66_14 := adv 7 [] (popK (popK K66_13))
def K66_15 := adv 1 [] (popK K66_14)
def K66_16 := adv 2 [] K66_15
def K66_17 := adv 11 [true] K66_16
def K66_18 := adv 3 [] (popK K66_17)
def K66_19 := adv 2 [] K66_16
def K66_20 := adv 1 [] (popK K66_19)
def K66_21 := adv 3 [] K66_20
def K66_22 := adv 4 [true] K66_21
def K66_23 := adv 3 [] (popK K66_22)
def K66_24 := adv 5 [false] K66_21
def K66_25 := adv 1 [] (popK K66_24)
def K66_26 := adv 5 [] K66_25
def K66_27 := adv 8 [false] K66_12
def K66_28 := adv 2 [] K66_27
def K66_29 := adv 1 [] K66_28
def K66_30 := adv 1 [] (popK K66_29)
def K66_31 := adv 1 [] (popK K66_30)
def K66_32 := adv 2 [] (popK K66_31)
def K66_33 := adv 4 [true] K66_32
def K66_34 := adv 3 [] (popK K66_33)
def K66_35 := adv 6 [false] K66_32
def K66_36 := adv 5 [] K66_35
def K66_37 := adv 12 [true] K66_28
def K66_38 := adv 3 [] (popK K66_37)
def K66_39 := adv 4 [true] K66_9
def K66_40 := adv 3 [] (popK K66_39)
def K66_41 := adv 7 [false] K66_5
def K66_42 := adv 11 [false] K66_2
def K66_43 := adv 5 [] (popK K66_42)
def K66_44 := adv 5 [] K66_43
def K66_45 := adv 7 [true] K66_44
def K66_46 := adv 1 [] (popK (popK (popK K66_45)))
def K66_47 := adv 4 [] (popK K66_46)
def K66_48 := adv 2 [] (popK (popK K66_47))
def K66_49 := adv 9 [false] K66_48
def K66_50 := adv 5 [] (popK (popK K66_49))
def K66_51 := adv 5 [] K66_50
def K66_52 := adv 6 [true] K66_51
def K66_53 := adv 7 [] (popK (popK K66_52))
def K66_54 := adv 1 [] (popK K66_53)
def K66_55 := adv 2 [] K66_54
def K66_56 := adv 11 [true] K66_55
def K66_57 := adv 3 [] (popK K66_56)
def K66_58 := adv 2 [] K66_55
def K66_59 := adv 1 [] (popK K66_58)
def K66_60 := adv 3 [] K66_59
def K66_61 := adv 4 [true] K66_60
def K66_62 := adv 3 [] (popK K66_61)
def K66_63 := adv 5 [false] K66_60
def K66_64 := adv 1 [] (popK K66_63)
def K66_65 := adv 5 [] K66_64
def K66_66 := adv 8 [false] K66_51
def K66_67 := adv 2 [] K66_66
def K66_68 := adv 1 [] K66_67
def K66_69 := adv 1 [] (popK K66_68)
def K66_70 := adv 1 [] (popK K66_69)
def K66_71 := adv 2 [] (popK K66_70)
def K66_72 := adv 4 [true] K66_71
def K66_73 := adv 3 [] (popK K66_72)
def K66_74 := adv 6 [false] K66_71
def K66_75 := adv 5 [] K66_74
def K66_76 := adv 12 [true] K66_67
def K66_77 := adv 3 [] (popK K66_76)
def K66_78 := adv 4 [true] K66_48
def K66_79 := adv 3 [] (popK K66_78)
def K66_80 := adv 7 [false] K66_44
set_option maxRecDepth 20000 in
set_option maxHeartbeats 20000000 in
theorem signals_any (f : Frm) (w : World) (hf : frmQ w f) (hL : 1 ≤ f.gLength ∧ f.gLength ≤ 8) : Ret Tryd.prog 66 #[.agg #[.string f.gName, .int .i64 f.gID, .int .i64 f.gLength, .bool f.gGuarded, .slice f.gSignals_a f.gSignals_n f.gSignals_c]] w (fun v w' => v = .tuple #[.string (sigsF f).1, .int .i64 (sigsF f).2] ∧ Sep w [] w') := by
 have S0 := Sep.refl w
 refine Ret.named fun R hR => ?_
 refine Ret.of_J (N := 71) [(0, .agg #[.string f.gName, .int .i64 f.gID, .int .i64 f.gLength, .bool f.gGuarded, .slice f.gSignals_a f.gSignals_n f.gSignals_c])] Tryd.func66 rfl rfl (Nat.le_of_ble_eq_true (by kernel_rfl)) (by kernel_rfl) ?_
 obtain ⟨q1, q2, q3, q4, q5, q6, _⟩ := id hf
 have ql1 := q5.len_eq
 refine J.run 2 K66_0 [(0, .agg #[.string f.gName, .int .i64 f.gID, .int .i64 f.gLength, .bool f.gGuarded, .slice f.gSignals_a f.gSignals_n f.gSignals_c])] w (by kernel_rfl) ?_
 refine J.new S0 1 [.string f.gName, .int .i64 f.gID, .int .i64 f.gLength, .bool f.gGuarded, .slice f.gSignals_a f.gSignals_n f.gSignals_c] 34 (by kernel_rfl) ?_
 intro b1 w1 S1
 refine J.run 11 K66_1 [(11, .pointer (some ⟨b1, 3, none⟩)), (4, .int .u64 0), (1, .pointer (some ⟨b1, 0, none⟩))] w1 (by kernel_rfl) ?_
 refine J.ok (OK.ldBox S1 0 12 4 3 (.bool f.gGuarded) (by kernel_rfl) rfl (by kernel_rfl)) ?_
 refine J.run 1 K66_2 [(12, .bool f.gGuarded), (4, .int .u64 0), (1, .pointer (some ⟨b1, 0, none⟩))] w1 (by kernel_rfl) ?_
 rcases Bool.eq_false_or_eq_true f.gGuarded with fk1 | fk1
 ·skip
  refine J.head (.bool true) (congrArg Value.bool fk1) ?_
  refine J.run 13 K66_3 [(14, .pointer (some ⟨b1, 4, none⟩)), (5, .int .u64 4095), (4, .int .u64 4095), (1, .pointer (some ⟨b1, 0, none⟩))] w1 (by kernel_rfl) ?_
  refine J.ok (OK.ldBox S1 0 15 32 4 (.slice f.gSignals_a f.gSignals_n f.gSignals_c) (by kernel_rfl) rfl (by kernel_rfl)) ?_
  refine J.run 5 K66_4 [(17, .int .i64 0), (16, .int .i64 (f.gSignals_n : Int)), (15, .slice f.gSignals_a f.gSignals_n f.gSignals_c), (5, .int .u64 4095), (4, .int .u64 4095), (1, .pointer (some ⟨b1, 0, none⟩))] w1 (by kernel_rfl) ?_
  have L66_1 : ∀ (mm_ : Nat) (tk : Int) (i : Int) (w2 : World), (0 ≤ i) → (i ≤ (f.gSignals_n : Int)) → (∀ j, j < (i).toNat → sigErr f j = 0) → (tk = ((tkN f (i).toNat : Nat) : Int)) → Sep w [box b1 [.string f.gName, .int .i64 f.gID, .int .i64 f.gLength, .bool f.gGuarded, .slice f.gSignals_a f.gSignals_n f.gSignals_c] 34] w2 → ((f.gSignals_n : Int) - i).toNat = mm_ → J Tryd.prog 66 71 R K66_4 [(17, .int .i64 i), (16, .int .i64 (f.gSignals_n : Int)), (15, .slice f.gSignals_a f.gSignals_n f.gSignals_c), (5, .int .u64 4095), (4, .int .u64 tk), (1, .pointer (some ⟨b1, 0, none⟩))] w2 := by
   intro mm1
   induction mm1 using Nat.strongRecOn with
   | _ mm1 ih1 =>
   intro tk i w2 h0 h1 hq ht S2 hm1
   refine J.run 5 K66_5 [(18, .bool (decide (i < (f.gSignals_n : Int)))), (17, .int .i64 i), (16, .int .i64 (f.gSignals_n : Int)), (15, .slice f.gSignals_a f.gSignals_n f.gSignals_c), (5, .int .u64 4095), (4, .int .u64 tk), (1, .pointer (some ⟨b1, 0, none⟩))] w2 (by kernel_rfl) ?_
   by_cases fk2 : i < (f.gSignals_n : Int)
   rotate_left
   ·skip
    refine J.head (.bool false) (congrArg Value.bool (decide_eq_false fk2)) ?_
    refine J.run 7 K66_41 [(3, .int .i64 0), (2, .string ByteArray.empty)] w2 (by kernel_rfl) ?_
    refine J.ret Tryd.f66 [.string ByteArray.empty, .int .i64 0] Tryd.func66 ⟨by kernel_rfl, by kernel_rfl, trivial⟩ ?_
    refine hR _ _ ?_
    obtain ⟨r1, r2⟩ := sigs_none (f := f) fun j hj => hq j (by omega)
    exact ⟨by rw [tup_two, r1, r2], S2.nil⟩
   refine J.head (.bool true) (congrArg Value.bool (decide_eq_true fk2)) ?_
   refine J.run 7 K66_6 [(19, .int .i64 i), (17, .int .i64 i), (16, .int .i64 (f.gSignals_n : Int)), (15, .slice f.gSignals_a f.gSignals_n f.gSignals_c), (5, .int .u64 4095), (4, .int .u64 tk), (1, .pointer (some ⟨b1, 0, none⟩))] w2 (by kernel_rfl) ?_
   obtain ⟨p1, hp1, hc1⟩ := q5.at sig0 (i).toNat (by omega)
   have hel1 := getD_Q q6 sig0 (n := (i).toNat) (by have := q5.len_eq; omega)
   obtain ⟨q7, q8, q9, q10, q11, q12, q13, q14, _⟩ := id hel1
   refine J.ok (OK.index 20 32 10 f.gSignals_a p1 f.gSignals_n (i).toNat i (p1.add ((i).toNat * 10)) (by kernel_rfl) (by kernel_rfl) hp1 (by omega) (by omega) rfl) ?_
   refine J.ok (OK.ldCells 21 57 (p1.add ((i).toNat * 10)) [.string ((f.gSignals_l.getD (i).toNat sig0).gName), .int .i64 ((f.gSignals_l.getD (i).toNat sig0).gStart), .int .i64 ((f.gSignals_l.getD (i).toNat sig0).gLength), .bool ((f.gSignals_l.getD (i).toNat sig0).gMotorola), .bool ((f.gSignals_l.getD (i).toNat sig0).gSigned), .int .i64 ((f.gSignals_l.getD (i).toNat sig0).gNum), .int .i64 ((f.gSignals_l.getD (i).toNat sig0).gOff), .int .i64 ((f.gSignals_l.getD (i).toNat sig0).gDen), .int .i64 ((f.gSignals_l.getD (i).toNat sig0).gLow), .int .i64 ((f.gSignals_l.getD (i).toNat sig0).gHigh)] (by kernel_rfl) (by kernel_rfl) (by kernel_rfl) (fun j_ v_ hj_ => S2.cell (hc1 j_ v_ hj_))) ?_
   refine J.new S2 7 [.string ByteArray.empty, .int .i64 0, .int .i64 0, .bool false, .bool false, .int .i64 0, .int .i64 0, .int .i64 0, .int .i64 0, .int .i64 0] 57 (by kernel_rfl) ?_
   intro b2 w3 S3
   refine J.run 1 K66_7 [(6, .int .i64 i), (7, .pointer (some ⟨b2, 0, none⟩)), (21, .agg #[.string ((f.gSignals_l.getD (i).toNat sig0).gName), .int .i64 ((f.gSignals_l.getD (i).toNat sig0).gStart), .int .i64 ((f.gSignals_l.getD (i).toNat sig0).gLength), .bool ((f.gSignals_l.getD (i).toNat sig0).gMotorola), .bool ((f.gSignals_l.getD (i).toNat sig0).gSigned), .int .i64 ((f.gSignals_l.getD (i).toNat sig0).gNum), .int .i64 ((f.gSignals_l.getD (i).toNat sig0).gOff), .int .i64 ((f.gSignals_l.getD (i).toNat sig0).gDen), .int .i64 ((f.gSignals_l.getD (i).toNat sig0).gLow), .int .i64 ((f.gSignals_l.getD (i).toNat sig0).gHigh)]), (17, .int .i64 i), (16, .int .i64 (f.gSignals_n : Int)), (15, .slice f.gSignals_a f.gSignals_n f.gSignals_c), (5, .int .u64 4095), (4, .int .u64 tk), (1, .pointer (some ⟨b1, 0, none⟩))] w3 (by kernel_rfl) ?_
   refine J.stBox S3 0 57 0 (.agg #[.string ((f.gSignals_l.getD (i).toNat sig0).gName), .int .i64 ((f.gSignals_l.getD (i).toNat sig0).gStart), .int .i64 ((f.gSignals_l.getD (i).toNat sig0).gLength), .bool ((f.gSignals_l.getD (i).toNat sig0).gMotorola), .bool ((f.gSignals_l.getD (i).toNat sig0).gSigned), .int .i64 ((f.gSignals_l.getD (i).toNat sig0).gNum), .int .i64 ((f.gSignals_l.getD (i).toNat sig0).gOff), .int .i64 ((f.gSignals_l.getD (i).toNat sig0).gDen), .int .i64 ((f.gSignals_l.getD (i).toNat sig0).gLow), .int .i64 ((f.gSignals_l.getD (i).toNat sig0).gHigh)]) [.string ((f.gSignals_l.getD (i).toNat sig0).gName), .int .i64 ((f.gSignals_l.getD (i).toNat sig0).gStart), .int .i64 ((f.gSignals_l.getD (i).toNat sig0).gLength), .bool ((f.gSignals_l.getD (i).toNat sig0).gMotorola), .bool ((f.gSignals_l.getD (i).toNat sig0).gSigned), .int .i64 ((f.gSignals_l.getD (i).toNat sig0).gNum), .int .i64 ((f.gSignals_l.getD (i).toNat sig0).gOff), .int .i64 ((f.gSignals_l.getD (i).toNat sig0).gDen), .int .i64 ((f.gSignals_l.getD (i).toNat sig0).gLow), .int .i64 ((f.gSignals_l.getD (i).toNat sig0).gHigh)] [box b2 [.string ((f.gSignals_l.getD (i).toNat sig0).gName), .int .i64 ((f.gSignals_l.getD (i).toNat sig0).gStart), .int .i64 ((f.gSignals_l.getD (i).toNat sig0).gLength), .bool ((f.gSignals_l.getD (i).toNat sig0).gMotorola), .bool ((f.gSignals_l.getD (i).toNat sig0).gSigned), .int .i64 ((f.gSignals_l.getD (i).toNat sig0).gNum), .int .i64 ((f.gSignals_l.getD (i).toNat sig0).gOff), .int .i64 ((f.gSignals_l.getD (i).toNat sig0).gDen), .int .i64 ((f.gSignals_l.getD (i).toNat sig0).gLow), .int .i64 ((f.gSignals_l.getD (i).toNat sig0).gHigh)] 57, box b1 [.string f.gName, .int .i64 f.gID, .int .i64 f.gLength, .bool f.gGuarded, .slice f.gSignals_a f.gSignals_n f.gSignals_c] 34] (by kernel_rfl) rfl (by kernel_rfl) (by kernel_rfl) rfl ?_
   intro w4 S4
   refine J.run 4 K66_8 [(6, .int .i64 i), (7, .pointer (some ⟨b2, 0, none⟩)), (17, .int .i64 i), (16, .int .i64 (f.gSignals_n : Int)), (15, .slice f.gSignals_a f.gSignals_n f.gSignals_c), (5, .int .u64 4095), (4, .int .u64 tk), (1, .pointer (some ⟨b1, 0, none⟩))] w4 (by kernel_rfl) ?_
   refine J.ok (OK.ldBox S4 0 22 57 0 (.agg #[.string ((f.gSignals_l.getD (i).toNat sig0).gName), .int .i64 ((f.gSignals_l.getD (i).toNat sig0).gStart), .int .i64 ((f.gSignals_l.getD (i).toNat sig0).gLength), .bool ((f.gSignals_l.getD (i).toNat sig0).gMotorola), .bool ((f.gSignals_l.getD (i).toNat sig0).gSigned), .int .i64 ((f.gSignals_l.getD (i).toNat sig0).gNum), .int .i64 ((f.gSignals_l.getD (i).toNat sig0).gOff), .int .i64 ((f.gSignals_l.getD (i).toNat sig0).gDen), .int .i64 ((f.gSignals_l.getD (i).toNat sig0).gLow), .int .i64 ((f.gSignals_l.getD (i).toNat sig0).gHigh)]) (by kernel_rfl) rfl (by kernel_rfl)) ?_
   refine J.callF 23 52 #[.agg #[.string ((f.gSignals_l.getD (i).toNat sig0).gName), .int .i64 ((f.gSignals_l.getD (i).toNat sig0).gStart), .int .i64 ((f.gSignals_l.getD (i).toNat sig0).gLength), .bool ((f.gSignals_l.getD (i).toNat sig0).gMotorola), .bool ((f.gSignals_l.getD (i).toNat sig0).gSigned), .int .i64 ((f.gSignals_l.getD (i).toNat sig0).gNum), .int .i64 ((f.gSignals_l.getD (i).toNat sig0).gOff), .int .i64 ((f.gSignals_l.getD (i).toNat sig0).gDen), .int .i64 ((f.gSignals_l.getD (i).toNat sig0).gLow), .int .i64 ((f.gSignals_l.getD (i).toNat sig0).gHigh)]] hb52 (by kernel_rfl) (valid_rec (f.gSignals_l.getD (i).toNat sig0) _ (sigQ_sep hel1 S4)) ?_
   rintro _ w5 ⟨rfl, T1⟩
   have S5 : Sep w [box b2 [.string ((f.gSignals_l.getD (i).toNat sig0).gName), .int .i64 ((f.gSignals_l.getD (i).toNat sig0).gStart), .int .i64 ((f.gSignals_l.getD (i).toNat sig0).gLength), .bool ((f.gSignals_l.getD (i).toNat sig0).gMotorola), .bool ((f.gSignals_l.getD (i).toNat sig0).gSigned), .int .i64 ((f.gSignals_l.getD (i).toNat sig0).gNum), .int .i64 ((f.gSignals_l.getD (i).toNat sig0).gOff), .int .i64 ((f.gSignals_l.getD (i).toNat sig0).gDen), .int .i64 ((f.gSignals_l.getD (i).toNat sig0).gLow), .int .i64 ((f.gSignals_l.getD (i).toNat sig0).gHigh)] 57, box b1 [.string f.gName, .int .i64 f.gID, .int .i64 f.gLength, .bool f.gGuarded, .slice f.gSignals_a f.gSignals_n f.gSignals_c] 34] w5 := S4.trans T1
   clear T1 S4
   refine J.run 2 K66_9 [(24, .bool (!(sigOK (f.gSignals_l.getD (i).toNat sig0)))), (6, .int .i64 i), (7, .pointer (some ⟨b2, 0, none⟩)), (17, .int .i64 i), (16, .int .i64 (f.gSignals_n : Int)), (15, .slice f.gSignals_a f.gSignals_n f.gSignals_c), (5, .int .u64 4095), (4, .int .u64 tk), (1, .pointer (some ⟨b1, 0, none⟩))] w5 (by kernel_rfl) ?_
   rcases Bool.eq_false_or_eq_true (sigOK (f.gSignals_l.getD (i).toNat sig0)) with fk3 | fk3
   rotate_left
   ·skip
    refine J.head (.bool true) (congrArg Value.bool (by rw [fk3]; rfl)) ?_
    refine J.run 4 K66_39 [(25, .pointer (some ⟨b2, 0, none⟩))] w5 (by kernel_rfl) ?_
    refine J.ok (OK.ldBox S5 0 26 9 0 (.string ((f.gSignals_l.getD (i).toNat sig0).gName)) (by kernel_rfl) rfl (by kernel_rfl)) ?_
    refine J.run 3 K66_40 [(3, .int .i64 1), (2, .string ((f.gSignals_l.getD (i).toNat sig0).gName))] w5 (by kernel_rfl) ?_
    refine J.ret Tryd.f66 [.string ((f.gSignals_l.getD (i).toNat sig0).gName), .int .i64 1] Tryd.func66 ⟨by kernel_rfl, by kernel_rfl, trivial⟩ ?_
    refine hR _ _ ?_
    obtain ⟨r1, r2⟩ := sigs_at (by omega) hq (sig_e1 fk3) (by decide)
    exact ⟨by rw [tup_two, r1, r2], S5.nil⟩
   refine J.head (.bool false) (congrArg Value.bool (by rw [fk3]; rfl)) ?_
   refine J.run 9 K66_10 [(8, .int .u64 0), (6, .int .i64 i), (7, .pointer (some ⟨b2, 0, none⟩)), (17, .int .i64 i), (16, .int .i64 (f.gSignals_n : Int)), (15, .slice f.gSignals_a f.gSignals_n f.gSignals_c), (5, .int .u64 4095), (4, .int .u64 tk), (1, .pointer (some ⟨b1, 0, none⟩))] w5 (by kernel_rfl) ?_
   refine J.ok (OK.ldBox S5 0 27 57 0 (.agg #[.string ((f.gSignals_l.getD (i).toNat sig0).gName), .int .i64 ((f.gSignals_l.getD (i).toNat sig0).gStart), .int .i64 ((f.gSignals_l.getD (i).toNat sig0).gLength), .bool ((f.gSignals_l.getD (i).toNat sig0).gMotorola), .bool ((f.gSignals_l.getD (i).toNat sig0).gSigned), .int .i64 ((f.gSignals_l.getD (i).toNat sig0).gNum), .int .i64 ((f.gSignals_l.getD (i).toNat sig0).gOff), .int .i64 ((f.gSignals_l.getD (i).toNat sig0).gDen), .int .i64 ((f.gSignals_l.getD (i).toNat sig0).gLow), .int .i64 ((f.gSignals_l.getD (i).toNat sig0).gHigh)]) (by kernel_rfl) rfl (by kernel_rfl)) ?_
   refine J.callF 28 24 #[.agg #[.string ((f.gSignals_l.getD (i).toNat sig0).gName), .int .i64 ((f.gSignals_l.getD (i).toNat sig0).gStart), .int .i64 ((f.gSignals_l.getD (i).toNat sig0).gLength), .bool ((f.gSignals_l.getD (i).toNat sig0).gMotorola), .bool ((f.gSignals_l.getD (i).toNat sig0).gSigned), .int .i64 ((f.gSignals_l.getD (i).toNat sig0).gNum), .int .i64 ((f.gSignals_l.getD (i).toNat sig0).gOff), .int .i64 ((f.gSignals_l.getD (i).toNat sig0).gDen), .int .i64 ((f.gSignals_l.getD (i).toNat sig0).gLow), .int .i64 ((f.gSignals_l.getD (i).toNat sig0).gHigh)]] hb24 (by kernel_rfl) (bits_rec (f.gSignals_l.getD (i).toNat sig0) _ (sigQ_sep hel1 S5)) ?_
   rintro _ w6 ⟨ra1, rc1, rfl, T2⟩
   have S6 : Sep w [rowOf encI ra1 rc1 3 1 (sbits (f.gSignals_l.getD (i).toNat sig0)), box b2 [.string ((f.gSignals_l.getD (i).toNat sig0).gName), .int .i64 ((f.gSignals_l.getD (i).toNat sig0).gStart), .int .i64 ((f.gSignals_l.getD (i).toNat sig0).gLength), .bool ((f.gSignals_l.getD (i).toNat sig0).gMotorola), .bool ((f.gSignals_l.getD (i).toNat sig0).gSigned), .int .i64 ((f.gSignals_l.getD (i).toNat sig0).gNum), .int .i64 ((f.gSignals_l.getD (i).toNat sig0).gOff), .int .i64 ((f.gSignals_l.getD (i).toNat sig0).gDen), .int .i64 ((f.gSignals_l.getD (i).toNat sig0).gLow), .int .i64 ((f.gSignals_l.getD (i).toNat sig0).gHigh)] 57, box b1 [.string f.gName, .int .i64 f.gID, .int .i64 f.gLength, .bool f.gGuarded, .slice f.gSignals_a f.gSignals_n f.gSignals_c] 34] w6 := S5.trans T2
   clear T2 S5
   have := sbits_len (f.gSignals_l.getD (i).toNat sig0)
   refine J.run 5 K66_11 [(30, .int .i64 0), (29, .int .i64 ((sbits (f.gSignals_l.getD (i).toNat sig0)).length : Int)), (28, .slice ra1 ((sbits (f.gSignals_l.getD (i).toNat sig0)).length) rc1), (8, .int .u64 0), (6, .int .i64 i), (7, .pointer (some ⟨b2, 0, none⟩)), (17, .int .i64 i), (16, .int .i64 (f.gSignals_n : Int)), (15, .slice f.gSignals_a f.gSignals_n f.gSignals_c), (5, .int .u64 4095), (4, .int .u64 tk), (1, .pointer (some ⟨b1, 0, none⟩))] w6 (by kernel_rfl) ?_
   have L66_2 : ∀ (mm_ : Nat) (own : Int) (j : Int) (w7 : World), (0 ≤ j) → (j ≤ ((sbits (f.gSignals_l.getD (i).toNat sig0)).length : Int)) → (own = ((maskN ((sbits (f.gSignals_l.getD (i).toNat sig0)).take (j).toNat) : Nat) : Int)) → (∀ k, k < (j).toNat → outB f ((sbits (f.gSignals_l.getD (i).toNat sig0)).getD k 0) = false) → Sep w [rowOf encI ra1 rc1 3 1 (sbits (f.gSignals_l.getD (i).toNat sig0)), box b2 [.string ((f.gSignals_l.getD (i).toNat sig0).gName), .int .i64 ((f.gSignals_l.getD (i).toNat sig0).gStart), .int .i64 ((f.gSignals_l.getD (i).toNat sig0).gLength), .bool ((f.gSignals_l.getD (i).toNat sig0).gMotorola), .bool ((f.gSignals_l.getD (i).toNat sig0).gSigned), .int .i64 ((f.gSignals_l.getD (i).toNat sig0).gNum), .int .i64 ((f.gSignals_l.getD (i).toNat sig0).gOff), .int .i64 ((f.gSignals_l.getD (i).toNat sig0).gDen), .int .i64 ((f.gSignals_l.getD (i).toNat sig0).gLow), .int .i64 ((f.gSignals_l.getD (i).toNat sig0).gHigh)] 57, box b1 [.string f.gName, .int .i64 f.gID, .int .i64 f.gLength, .bool f.gGuarded, .slice f.gSignals_a f.gSignals_n f.gSignals_c] 34] w7 → (((sbits (f.gSignals_l.getD (i).toNat sig0)).length : Int) - j).toNat = mm_ → J Tryd.prog 66 71 R K66_11 [(30, .int .i64 j), (29, .int .i64 ((sbits (f.gSignals_l.getD (i).toNat sig0)).length : Int)), (28, .slice ra1 ((sbits (f.gSignals_l.getD (i).toNat sig0)).length) rc1), (8, .int .u64 own), (6, .int .i64 i), (7, .pointer (some ⟨b2, 0, none⟩)), (17, .int .i64 i), (16, .int .i64 (f.gSignals_n : Int)), (15, .slice f.gSignals_a f.gSignals_n f.gSignals_c), (5, .int .u64 4095), (4, .int .u64 tk), (1, .pointer (some ⟨b1, 0, none⟩))] w7 := by
    intro mm2
    induction mm2 using Nat.strongRecOn with
    | _ mm2 ih2 =>
    intro own j w7 j0 j1 hown hin S7 hm2
    have hbp : j < ((sbits (f.gSignals_l.getD (i).toNat sig0)).length : Int) → _ := fun h => sbits_pos (s := f.gSignals_l.getD (i).toNat sig0) _ (getD_mem (n := j.toNat) 0 (by omega))
    refine J.run 5 K66_12 [(31, .bool (decide (j < ((sbits (f.gSignals_l.getD (i).toNat sig0)).length : Int)))), (30, .int .i64 j), (29, .int .i64 ((sbits (f.gSignals_l.getD (i).toNat sig0)).length : Int)), (28, .slice ra1 ((sbits (f.gSignals_l.getD (i).toNat sig0)).length) rc1), (8, .int .u64 own), (6, .int .i64 i), (7, .pointer (some ⟨b2, 0, none⟩)), (17, .int .i64 i), (16, .int .i64 (f.gSignals_n : Int)), (15, .slice f.gSignals_a f.gSignals_n f.gSignals_c), (5, .int .u64 4095), (4, .int .u64 tk), (1, .pointer (some ⟨b1, 0, none⟩))] w7 (by kernel_rfl) ?_
    by_cases fk4 : j < ((sbits (f.gSignals_l.getD (i).toNat sig0)).length : Int)
    rotate_left
    ·skip
     refine J.head (.bool false) (congrArg Value.bool (decide_eq_false fk4)) ?_
     have hown2 := own_all fk4 j1 hown
     have hino : (sbits (f.gSignals_l.getD (i).toNat sig0)).any (outB f) = false := none_bits fun k hk => hin k (by omega)
     have hlt1 := own_all_lt hL.2 hino
     have hlt2 := tkN_lt (f := f) (k := i.toNat) (by omega) hL.2 hq
     refine J.run 8 K66_27 [(55, .int .u64 (IntKind.wrap .u64 ((BitVec.ofInt 64 own &&& (BitVec.ofInt 64 tk)).toNat : Int))), (8, .int .u64 own), (6, .int .i64 i), (7, .pointer (some ⟨b2, 0, none⟩)), (17, .int .i64 i), (16, .int .i64 (f.gSignals_n : Int)), (15, .slice f.gSignals_a f.gSignals_n f.gSignals_c), (5, .int .u64 4095), (4, .int .u64 tk), (1, .pointer (some ⟨b1, 0, none⟩))] w7 (by kernel_rfl) ?_
     refine J.head (.int .u64 ((maskN (sbits (f.gSignals_l.getD (i).toNat sig0)) &&& tkN f i.toNat : Nat) : Int)) (congrArg (Value.int .u64) (by rw [hown2, ht]; exact and_u64 hlt1 hlt2)) ?_
     refine J.run 2 K66_28 [(57, .bool (((maskN (sbits (f.gSignals_l.getD (i).toNat sig0)) &&& tkN f i.toNat : Nat) : Int) != 0)), (8, .int .u64 own), (6, .int .i64 i), (7, .pointer (some ⟨b2, 0, none⟩)), (17, .int .i64 i), (16, .int .i64 (f.gSignals_n : Int)), (15, .slice f.gSignals_a f.gSignals_n f.gSignals_c), (5, .int .u64 4095), (4, .int .u64 tk), (1, .pointer (some ⟨b1, 0, none⟩))] w7 (by kernel_rfl) ?_
     by_cases fk7 : ((maskN (sbits (f.gSignals_l.getD (i).toNat sig0)) &&& tkN f i.toNat : Nat) : Int) = 0
     rotate_left
     ·skip
      refine J.head (.bool true) (congrArg Value.bool (bne_iff_ne.2 fk7)) ?_
      refine J.run 12 K66_37 [(65, .pointer (some ⟨b2, 0, none⟩))] w7 (by kernel_rfl) ?_
      refine J.ok (OK.ldBox S7 1 66 9 0 (.string ((f.gSignals_l.getD (i).toNat sig0).gName)) (by kernel_rfl) rfl (by kernel_rfl)) ?_
      refine J.run 3 K66_38 [(3, .int .i64 8), (2, .string ((f.gSignals_l.getD (i).toNat sig0).gName))] w7 (by kernel_rfl) ?_
      refine J.ret Tryd.f66 [.string ((f.gSignals_l.getD (i).toNat sig0).gName), .int .i64 8] Tryd.func66 ⟨by kernel_rfl, by kernel_rfl, trivial⟩ ?_
      refine hR _ _ ?_
      obtain ⟨r1, r2⟩ := sigs_at (by omega) hq (sig_e8 fk3 hino (.inr (by cases hla : (f.gSignals_l.take i.toNat).any (lapB (f.gSignals_l.getD (i).toNat sig0)) with | true => rfl | false => exact absurd (congrArg Nat.cast ((lap_iff (by omega) hino).2 hla)) fk7))) (by decide)
      exact ⟨by rw [tup_two, r1, r2], S7.nil⟩
     refine J.head (.bool false) (congrArg Value.bool (bne_eq_false_iff_eq.2 fk7)) ?_
     refine J.run 1 K66_29 [(58, .pointer (some ⟨b1, 4, none⟩)), (57, .bool false), (8, .int .u64 own), (6, .int .i64 i), (7, .pointer (some ⟨b2, 0, none⟩)), (17, .int .i64 i), (16, .int .i64 (f.gSignals_n : Int)), (15, .slice f.gSignals_a f.gSignals_n f.gSignals_c), (5, .int .u64 4095), (4, .int .u64 tk), (1, .pointer (some ⟨b1, 0, none⟩))] w7 (by kernel_rfl) ?_
     refine J.ok (OK.ldBox S7 2 59 32 4 (.slice f.gSignals_a f.gSignals_n f.gSignals_c) (by kernel_rfl) rfl (by kernel_rfl)) ?_
     refine J.run 1 K66_30 [(60, .int .i64 i), (59, .slice f.gSignals_a f.gSignals_n f.gSignals_c), (57, .bool false), (8, .int .u64 own), (7, .pointer (some ⟨b2, 0, none⟩)), (17, .int .i64 i), (16, .int .i64 (f.gSignals_n : Int)), (15, .slice f.gSignals_a f.gSignals_n f.gSignals_c), (5, .int .u64 4095), (4, .int .u64 tk), (1, .pointer (some ⟨b1, 0, none⟩))] w7 (by kernel_rfl) ?_
     refine J.ok (OK.slice 61 32 10 f.gSignals_a f.gSignals_n f.gSignals_c none (some (.int .i64 i)) 0 ((i).toNat) (by kernel_rfl) (by kernel_rfl) (.inl ⟨rfl, rfl⟩) (.inr ⟨_, _, rfl, by omega⟩) (by first | omega | (simp; omega)) (by first | omega | (simp; omega))) ?_
     refine J.head (.slice f.gSignals_a ((i).toNat) f.gSignals_c) (by rw [subA_zero]; try rfl) ?_
     refine J.run 1 K66_31 [(62, .func (.func 85) #[] #[.pointer (some ⟨b2, 0, none⟩)]), (61, .slice f.gSignals_a ((i).toNat) f.gSignals_c), (57, .bool false), (8, .int .u64 own), (7, .pointer (some ⟨b2, 0, none⟩)), (17, .int .i64 i), (16, .int .i64 (f.gSignals_n : Int)), (15, .slice f.gSignals_a f.gSignals_n f.gSignals_c), (5, .int .u64 4095), (4, .int .u64 tk), (1, .pointer (some ⟨b1, 0, none⟩))] w7 (by kernel_rfl) ?_
     refine J.callF 63 27 #[.slice f.gSignals_a ((i).toNat) f.gSignals_c, .func (.func 85) #[] #[.pointer (some ⟨b2, 0, none⟩)]] hb27 (by kernel_rfl) (containsSg1 f.gSignals_a ((i).toNat) f.gSignals_c (f.gSignals_l.take ((i).toNat)) 85 (.pointer (some ⟨b2, 0, none⟩)) (fun x => eqT x.gName (f.gSignals_l.getD (i).toNat sig0).gName) _ ((q5.sep S7).take ((i).toNat) (by first | omega | (simp; omega))) (by first | omega | (simp; omega)) hb85 (fun i_ w_ hi_ S_ => samename_any (f.gSignals_l.getD (i).toNat sig0) _ b2 w_ (box_keep (S7.nth 1 rfl) S_))) ?_
     rintro _ w8 ⟨rfl, T3⟩
     have S8 : Sep w [rowOf encI ra1 rc1 3 1 (sbits (f.gSignals_l.getD (i).toNat sig0)), box b2 [.string ((f.gSignals_l.getD (i).toNat sig0).gName), .int .i64 ((f.gSignals_l.getD (i).toNat sig0).gStart), .int .i64 ((f.gSignals_l.getD (i).toNat sig0).gLength), .bool ((f.gSignals_l.getD (i).toNat sig0).gMotorola), .bool ((f.gSignals_l.getD (i).toNat sig0).gSigned), .int .i64 ((f.gSignals_l.getD (i).toNat sig0).gNum), .int .i64 ((f.gSignals_l.getD (i).toNat sig0).gOff), .int .i64 ((f.gSignals_l.getD (i).toNat sig0).gDen), .int .i64 ((f.gSignals_l.getD (i).toNat sig0).gLow), .int .i64 ((f.gSignals_l.getD (i).toNat sig0).gHigh)] 57, box b1 [.string f.gName, .int .i64 f.gID, .int .i64 f.gLength, .bool f.gGuarded, .slice f.gSignals_a f.gSignals_n f.gSignals_c] 34] w8 := S7.trans T3
     clear T3 S7
     refine J.run 2 K66_32 [(64, .bool (List.any (f.gSignals_l.take ((i).toNat)) (fun x => eqT x.gName (f.gSignals_l.getD (i).toNat sig0).gName))), (8, .int .u64 own), (7, .pointer (some ⟨b2, 0, none⟩)), (17, .int .i64 i), (16, .int .i64 (f.gSignals_n : Int)), (15, .slice f.gSignals_a f.gSignals_n f.gSignals_c), (5, .int .u64 4095), (4, .int .u64 tk), (1, .pointer (some ⟨b1, 0, none⟩))] w8 (by kernel_rfl) ?_
     rcases Bool.eq_false_or_eq_true (List.any (f.gSignals_l.take ((i).toNat)) (fun x => eqT x.gName (f.gSignals_l.getD (i).toNat sig0).gName)) with fk8 | fk8
     ·skip
      refine J.head (.bool true) (congrArg Value.bool fk8) ?_
      refine J.run 4 K66_33 [(65, .pointer (some ⟨b2, 0, none⟩))] w8 (by kernel_rfl) ?_
      refine J.ok (OK.ldBox S8 1 66 9 0 (.string ((f.gSignals_l.getD (i).toNat sig0).gName)) (by kernel_rfl) rfl (by kernel_rfl)) ?_
      refine J.run 3 K66_34 [(3, .int .i64 8), (2, .string ((f.gSignals_l.getD (i).toNat sig0).gName))] w8 (by kernel_rfl) ?_
      refine J.ret Tryd.f66 [.string ((f.gSignals_l.getD (i).toNat sig0).gName), .int .i64 8] Tryd.func66 ⟨by kernel_rfl, by kernel_rfl, trivial⟩ ?_
      refine hR _ _ ?_
      obtain ⟨r1, r2⟩ := sigs_at (by omega) hq (sig_e8 fk3 hino (.inl fk8)) (by decide)
      exact ⟨by rw [tup_two, r1, r2], S8.nil⟩
     refine J.head (.bool false) (congrArg Value.bool fk8) ?_
     refine J.run 6 K66_35 [(69, .int .u64 (IntKind.wrap .u64 ((BitVec.ofInt 64 tk ||| (BitVec.ofInt 64 own)).toNat : Int))), (17, .int .i64 i), (16, .int .i64 (f.gSignals_n : Int)), (15, .slice f.gSignals_a f.gSignals_n f.gSignals_c), (5, .int .u64 4095), (1, .pointer (some ⟨b1, 0, none⟩))] w8 (by kernel_rfl) ?_
     refine J.head (.int .u64 ((tkN f (i + 1).toNat : Nat) : Int)) (congrArg (Value.int .u64) (by rw [hown2, ht, show (i + 1).toNat = i.toNat + 1 by omega]; exact or_u64 hlt2 hlt1)) ?_
     refine J.run 5 K66_36 [(70, .int .i64 (IntKind.wrap .i64 (i + 1))), (4, .int .u64 ((tkN f (i + 1).toNat : Nat) : Int)), (16, .int .i64 (f.gSignals_n : Int)), (15, .slice f.gSignals_a f.gSignals_n f.gSignals_c), (5, .int .u64 4095), (1, .pointer (some ⟨b1, 0, none⟩))] w8 (by kernel_rfl) ?_
     refine J.head (.int .i64 (i + 1)) (congrArg (Value.int .i64) (IntWalk.i64_in _ (by omega))) ?_
     refine J.run 3 K66_4 [(17, .int .i64 (i + 1)), (4, .int .u64 ((tkN f (i + 1).toNat : Nat) : Int)), (16, .int .i64 (f.gSignals_n : Int)), (15, .slice f.gSignals_a f.gSignals_n f.gSignals_c), (5, .int .u64 4095), (1, .pointer (some ⟨b1, 0, none⟩))] w8 (by kernel_rfl) ?_
     have S9 : Sep w [rowOf encI ra1 rc1 3 1 (sbits (f.gSignals_l.getD (i).toNat sig0)), box b1 [.string f.gName, .int .i64 f.gID, .int .i64 f.gLength, .bool f.gGuarded, .slice f.gSignals_a f.gSignals_n f.gSignals_c] 34] w8 := S8.erase 1
     clear S8
     have S10 : Sep w [box b1 [.string f.gName, .int .i64 f.gID, .int .i64 f.gLength, .bool f.gGuarded, .slice f.gSignals_a f.gSignals_n f.gSignals_c] 34] w8 := S9.erase 0
     clear S9
     refine J.run 0 K66_4 [(17, .int .i64 (i + 1)), (16, .int .i64 (f.gSignals_n : Int)), (15, .slice f.gSignals_a f.gSignals_n f.gSignals_c), (5, .int .u64 4095), (4, .int .u64 ((tkN f (i + 1).toNat : Nat) : Int)), (1, .pointer (some ⟨b1, 0, none⟩))] w8 (by kernel_rfl) ?_
     exact ih1 _ (show ((f.gSignals_n : Int) - (i + 1)).toNat < mm1 from by omega) ((tkN f (i + 1).toNat : Nat) : Int) (i + 1) w8 (by omega) (by omega) (err_step h0 hq (sig_e0 fk3 hino fk8 ((lap_iff (by omega) hino).1 (by exact_mod_cast fk7)))) (rfl) S10 rfl
    refine J.head (.bool true) (congrArg Value.bool (decide_eq_true fk4)) ?_
    refine J.run 6 K66_13 [(30, .int .i64 j), (29, .int .i64 ((sbits (f.gSignals_l.getD (i).toNat sig0)).length : Int)), (28, .slice ra1 ((sbits (f.gSignals_l.getD (i).toNat sig0)).length) rc1), (8, .int .u64 own), (6, .int .i64 i), (7, .pointer (some ⟨b2, 0, none⟩)), (17, .int .i64 i), (16, .int .i64 (f.gSignals_n : Int)), (15, .slice f.gSignals_a f.gSignals_n f.gSignals_c), (5, .int .u64 4095), (4, .int .u64 tk), (1, .pointer (some ⟨b1, 0, none⟩))] w7 (by kernel_rfl) ?_
    obtain ⟨p2, hp2⟩ := row1_addr (S7.nth 0 rfl) (show 0 < (sbits (f.gSignals_l.getD (i).toNat sig0)).length by first | omega | (simp; omega))
    refine J.ok (OK.index 32 59 1 ra1 p2 ((sbits (f.gSignals_l.getD (i).toNat sig0)).length) (j).toNat j (p2.add (j).toNat) (by kernel_rfl) (by kernel_rfl) hp2 (by omega) (by first | omega | (simp; omega)) (by rw [Nat.mul_one])) ?_
    refine J.ok (OK.ldCell 33 3 (p2.add (j).toNat) (.int .i64 ((sbits (f.gSignals_l.getD (i).toNat sig0)).getD (j).toNat 0)) (by kernel_rfl) (by kernel_rfl) (row1_cell (g := (Value.int .i64)) S7 0 rfl hp2 0 (j).toNat (by first | omega | (simp; omega)))) ?_
    refine J.run 7 K66_14 [(35, .pointer (some ⟨b1, 2, none⟩)), (34, .int .i64 ((sbits (f.gSignals_l.getD (i).toNat sig0)).getD (j).toNat 0)), (10, .int .i64 ((sbits (f.gSignals_l.getD (i).toNat sig0)).getD (j).toNat 0)), (30, .int .i64 j), (29, .int .i64 ((sbits (f.gSignals_l.getD (i).toNat sig0)).length : Int)), (28, .slice ra1 ((sbits (f.gSignals_l.getD (i).toNat sig0)).length) rc1), (8, .int .u64 own), (6, .int .i64 i), (7, .pointer (some ⟨b2, 0, none⟩)), (17, .int .i64 i), (16, .int .i64 (f.gSignals_n : Int)), (15, .slice f.gSignals_a f.gSignals_n f.gSignals_c), (5, .int .u64 4095), (4, .int .u64 tk), (1, .pointer (some ⟨b1, 0, none⟩))] w7 (by kernel_rfl) ?_
    refine J.ok (OK.ldBox S7 2 36 3 2 (.int .i64 f.gLength) (by kernel_rfl) rfl (by kernel_rfl)) ?_
    refine J.run 1 K66_15 [(37, .int .i64 (IntKind.wrap .i64 (8 * f.gLength))), (34, .int .i64 ((sbits (f.gSignals_l.getD (i).toNat sig0)).getD (j).toNat 0)), (10, .int .i64 ((sbits (f.gSignals_l.getD (i).toNat sig0)).getD (j).toNat 0)), (30, .int .i64 j), (29, .int .i64 ((sbits (f.gSignals_l.getD (i).toNat sig0)).length : Int)), (28, .slice ra1 ((sbits (f.gSignals_l.getD (i).toNat sig0)).length) rc1), (8, .int .u64 own), (6, .int .i64 i), (7, .pointer (some ⟨b2, 0, none⟩)), (17, .int .i64 i), (16, .int .i64 (f.gSignals_n : Int)), (15, .slice f.gSignals_a f.gSignals_n f.gSignals_c), (5, .int .u64 4095), (4, .int .u64 tk), (1, .pointer (some ⟨b1, 0, none⟩))] w7 (by kernel_rfl) ?_
    refine J.head (.int .i64 (8 * f.gLength)) (congrArg (Value.int .i64) (IntWalk.i64_in _ (by omega))) ?_
    refine J.run 2 K66_16 [(39, .bool (decide (((sbits (f.gSignals_l.getD (i).toNat sig0)).getD (j).toNat 0) ≥ (8 * f.gLength)))), (10, .int .i64 ((sbits (f.gSignals_l.getD (i).toNat sig0)).getD (j).toNat 0)), (30, .int .i64 j), (29, .int .i64 ((sbits (f.gSignals_l.getD (i).toNat sig0)).length : Int)), (28, .slice ra1 ((sbits (f.gSignals_l.getD (i).toNat sig0)).length) rc1), (8, .int .u64 own), (6, .int .i64 i), (7, .pointer (some ⟨b2, 0, none⟩)), (17, .int .i64 i), (16, .int .i64 (f.gSignals_n : Int)), (15, .slice f.gSignals_a f.gSignals_n f.gSignals_c), (5, .int .u64 4095), (4, .int .u64 tk), (1, .pointer (some ⟨b1, 0, none⟩))] w7 (by kernel_rfl) ?_
    by_cases fk5 : ((sbits (f.gSignals_l.getD (i).toNat sig0)).getD (j).toNat 0) ≥ (8 * f.gLength)
    ·skip
     refine J.head (.bool true) (congrArg Value.bool (decide_eq_true fk5)) ?_
     refine J.run 11 K66_17 [(46, .pointer (some ⟨b2, 0, none⟩))] w7 (by kernel_rfl) ?_
     refine J.ok (OK.ldBox S7 1 47 9 0 (.string ((f.gSignals_l.getD (i).toNat sig0).gName)) (by kernel_rfl) rfl (by kernel_rfl)) ?_
     refine J.run 3 K66_18 [(3, .int .i64 2), (2, .string ((f.gSignals_l.getD (i).toNat sig0).gName))] w7 (by kernel_rfl) ?_
     refine J.ret Tryd.f66 [.string ((f.gSignals_l.getD (i).toNat sig0).gName), .int .i64 2] Tryd.func66 ⟨by kernel_rfl, by kernel_rfl, trivial⟩ ?_
     refine hR _ _ ?_
     obtain ⟨r1, r2⟩ := sigs_at (by omega) hq (sig_e2 fk3 (any_bits (j := j.toNat) (by omega) (out_far (by omega)))) (by decide)
     exact ⟨by rw [tup_two, r1, r2], S7.nil⟩
    refine J.head (.bool false) (congrArg Value.bool (decide_eq_false fk5)) ?_
    refine J.run 2 K66_19 [(41, .int .i64 ((sbits (f.gSignals_l.getD (i).toNat sig0)).getD (j).toNat 0)), (40, .int .u64 4095), (39, .bool false), (10, .int .i64 ((sbits (f.gSignals_l.getD (i).toNat sig0)).getD (j).toNat 0)), (30, .int .i64 j), (29, .int .i64 ((sbits (f.gSignals_l.getD (i).toNat sig0)).length : Int)), (28, .slice ra1 ((sbits (f.gSignals_l.getD (i).toNat sig0)).length) rc1), (8, .int .u64 own), (6, .int .i64 i), (7, .pointer (some ⟨b2, 0, none⟩)), (17, .int .i64 i), (16, .int .i64 (f.gSignals_n : Int)), (15, .slice f.gSignals_a f.gSignals_n f.gSignals_c), (5, .int .u64 4095), (4, .int .u64 tk), (1, .pointer (some ⟨b1, 0, none⟩))] w7 (by kernel_rfl) ?_
    refine J.ok (OK.shr 42 .u64 4095 ((sbits (f.gSignals_l.getD (i).toNat sig0)).getD (j).toNat 0) ((guardN true / 2 ^ ((sbits (f.gSignals_l.getD (i).toNat sig0)).getD (j).toNat 0).toNat : Nat) : Int) (by kernel_rfl) (by omega) (guard_bit (g := true) (by omega) (by omega))) ?_
    refine J.run 1 K66_20 [(43, .int .u64 (IntKind.wrap .u64 ((BitVec.ofInt 64 ((guardN true / 2 ^ ((sbits (f.gSignals_l.getD (i).toNat sig0)).getD (j).toNat 0).toNat : Nat) : Int) &&& (BitVec.ofInt 64 (1 : Int))).toNat : Int))), (39, .bool false), (10, .int .i64 ((sbits (f.gSignals_l.getD (i).toNat sig0)).getD (j).toNat 0)), (30, .int .i64 j), (29, .int .i64 ((sbits (f.gSignals_l.getD (i).toNat sig0)).length : Int)), (28, .slice ra1 ((sbits (f.gSignals_l.getD (i).toNat sig0)).length) rc1), (8, .int .u64 own), (6, .int .i64 i), (7, .pointer (some ⟨b2, 0, none⟩)), (17, .int .i64 i), (16, .int .i64 (f.gSignals_n : Int)), (15, .slice f.gSignals_a f.gSignals_n f.gSignals_c), (5, .int .u64 4095), (4, .int .u64 tk), (1, .pointer (some ⟨b1, 0, none⟩))] w7 (by kernel_rfl) ?_
    refine J.head (.int .u64 (((guardN true / 2 ^ ((sbits (f.gSignals_l.getD (i).toNat sig0)).getD (j).toNat 0).toNat : Nat) : Int) % 2)) (congrArg (Value.int .u64) (and_mask_u64 1 _ _ (by rfl) (by decide))) ?_
    refine J.run 3 K66_21 [(45, .bool ((((guardN true / 2 ^ ((sbits (f.gSignals_l.getD (i).toNat sig0)).getD (j).toNat 0).toNat : Nat) : Int) % 2) == 1)), (10, .int .i64 ((sbits (f.gSignals_l.getD (i).toNat sig0)).getD (j).toNat 0)), (30, .int .i64 j), (29, .int .i64 ((sbits (f.gSignals_l.getD (i).toNat sig0)).length : Int)), (28, .slice ra1 ((sbits (f.gSignals_l.getD (i).toNat sig0)).length) rc1), (8, .int .u64 own), (6, .int .i64 i), (7, .pointer (some ⟨b2, 0, none⟩)), (17, .int .i64 i), (16, .int .i64 (f.gSignals_n : Int)), (15, .slice f.gSignals_a f.gSignals_n f.gSignals_c), (5, .int .u64 4095), (4, .int .u64 tk), (1, .pointer (some ⟨b1, 0, none⟩))] w7 (by kernel_rfl) ?_
    by_cases fk6 : (((guardN true / 2 ^ ((sbits (f.gSignals_l.getD (i).toNat sig0)).getD (j).toNat 0).toNat : Nat) : Int) % 2) = 1
    ·skip
     refine J.head (.bool true) (congrArg Value.bool (beq_iff_eq.2 fk6)) ?_
     refine J.run 4 K66_22 [(46, .pointer (some ⟨b2, 0, none⟩))] w7 (by kernel_rfl) ?_
     refine J.ok (OK.ldBox S7 1 47 9 0 (.string ((f.gSignals_l.getD (i).toNat sig0).gName)) (by kernel_rfl) rfl (by kernel_rfl)) ?_
     refine J.run 3 K66_23 [(3, .int .i64 2), (2, .string ((f.gSignals_l.getD (i).toNat sig0).gName))] w7 (by kernel_rfl) ?_
     refine J.ret Tryd.f66 [.string ((f.gSignals_l.getD (i).toNat sig0).gName), .int .i64 2] Tryd.func66 ⟨by kernel_rfl, by kernel_rfl, trivial⟩ ?_
     refine hR _ _ ?_
     obtain ⟨r1, r2⟩ := sigs_at (by omega) hq (sig_e2 fk3 (any_bits (j := j.toNat) (by omega) (out_guard fk1 (by omega) fk6))) (by decide)
     exact ⟨by rw [tup_two, r1, r2], S7.nil⟩
    refine J.head (.bool false) (congrArg Value.bool (beq_eq_false_iff_ne.2 fk6)) ?_
    refine J.run 5 K66_24 [(49, .int .i64 ((sbits (f.gSignals_l.getD (i).toNat sig0)).getD (j).toNat 0)), (48, .int .u64 own), (30, .int .i64 j), (29, .int .i64 ((sbits (f.gSignals_l.getD (i).toNat sig0)).length : Int)), (28, .slice ra1 ((sbits (f.gSignals_l.getD (i).toNat sig0)).length) rc1), (6, .int .i64 i), (7, .pointer (some ⟨b2, 0, none⟩)), (17, .int .i64 i), (16, .int .i64 (f.gSignals_n : Int)), (15, .slice f.gSignals_a f.gSignals_n f.gSignals_c), (5, .int .u64 4095), (4, .int .u64 tk), (1, .pointer (some ⟨b1, 0, none⟩))] w7 (by kernel_rfl) ?_
    refine J.ok (OK.shl 50 .u64 1 ((sbits (f.gSignals_l.getD (i).toNat sig0)).getD (j).toNat 0) ((2 ^ ((sbits (f.gSignals_l.getD (i).toNat sig0)).getD (j).toNat 0).toNat : Nat) : Int) (by kernel_rfl) (by omega) (shl_u64 (by omega) (by omega))) ?_
    refine J.run 1 K66_25 [(51, .int .u64 (IntKind.wrap .u64 ((BitVec.ofInt 64 own ||| (BitVec.ofInt 64 ((2 ^ ((sbits (f.gSignals_l.getD (i).toNat sig0)).getD (j).toNat 0).toNat : Nat) : Int))).toNat : Int))), (30, .int .i64 j), (29, .int .i64 ((sbits (f.gSignals_l.getD (i).toNat sig0)).length : Int)), (28, .slice ra1 ((sbits (f.gSignals_l.getD (i).toNat sig0)).length) rc1), (6, .int .i64 i), (7, .pointer (some ⟨b2, 0, none⟩)), (17, .int .i64 i), (16, .int .i64 (f.gSignals_n : Int)), (15, .slice f.gSignals_a f.gSignals_n f.gSignals_c), (5, .int .u64 4095), (4, .int .u64 tk), (1, .pointer (some ⟨b1, 0, none⟩))] w7 (by kernel_rfl) ?_
    refine J.head (.int .u64 ((maskN ((sbits (f.gSignals_l.getD (i).toNat sig0)).take (j + 1).toNat) : Nat) : Int)) (congrArg (Value.int .u64) (or_bits hL.2 j0 (by omega) hown hin (by omega))) ?_
    refine J.run 5 K66_26 [(52, .int .i64 (IntKind.wrap .i64 (j + 1))), (8, .int .u64 ((maskN ((sbits (f.gSignals_l.getD (i).toNat sig0)).take (j + 1).toNat) : Nat) : Int)), (29, .int .i64 ((sbits (f.gSignals_l.getD (i).toNat sig0)).length : Int)), (28, .slice ra1 ((sbits (f.gSignals_l.getD (i).toNat sig0)).length) rc1), (6, .int .i64 i), (7, .pointer (some ⟨b2, 0, none⟩)), (17, .int .i64 i), (16, .int .i64 (f.gSignals_n : Int)), (15, .slice f.gSignals_a f.gSignals_n f.gSignals_c), (5, .int .u64 4095), (4, .int .u64 tk), (1, .pointer (some ⟨b1, 0, none⟩))] w7 (by kernel_rfl) ?_
    refine J.head (.int .i64 (j + 1)) (congrArg (Value.int .i64) (IntWalk.i64_in _ (by omega))) ?_
    refine J.run 3 K66_11 [(30, .int .i64 (j + 1)), (8, .int .u64 ((maskN ((sbits (f.gSignals_l.getD (i).toNat sig0)).take (j + 1).toNat) : Nat) : Int)), (29, .int .i64 ((sbits (f.gSignals_l.getD (i).toNat sig0)).length : Int)), (28, .slice ra1 ((sbits (f.gSignals_l.getD (i).toNat sig0)).length) rc1), (6, .int .i64 i), (7, .pointer (some ⟨b2, 0, none⟩)), (17, .int .i64 i), (16, .int .i64 (f.gSignals_n : Int)), (15, .slice f.gSignals_a f.gSignals_n f.gSignals_c), (5, .int .u64 4095), (4, .int .u64 tk), (1, .pointer (some ⟨b1, 0, none⟩))] w7 (by kernel_rfl) ?_
    refine J.run 0 K66_11 [(30, .int .i64 (j + 1)), (29, .int .i64 ((sbits (f.gSignals_l.getD (i).toNat sig0)).length : Int)), (28, .slice ra1 ((sbits (f.gSignals_l.getD (i).toNat sig0)).length) rc1), (8, .int .u64 ((maskN ((sbits (f.gSignals_l.getD (i).toNat sig0)).take (j + 1).toNat) : Nat) : Int)), (6, .int .i64 i), (7, .pointer (some ⟨b2, 0, none⟩)), (17, .int .i64 i), (16, .int .i64 (f.gSignals_n : Int)), (15, .slice f.gSignals_a f.gSignals_n f.gSignals_c), (5, .int .u64 4095), (4, .int .u64 tk), (1, .pointer (some ⟨b1, 0, none⟩))] w7 (by kernel_rfl) ?_
    exact ih2 _ (show (((sbits (f.gSignals_l.getD (i).toNat sig0)).length : Int) - (j + 1)).toNat < mm2 from by omega) ((maskN ((sbits (f.gSignals_l.getD (i).toNat sig0)).take (j + 1).toNat) : Nat) : Int) (j + 1) w7 (by omega) (by omega) (rfl) (bits_step j0 hin (out_no fk1 (by omega) (by omega) fk6)) S7 rfl
   exact L66_2 _ 0 0 w6 (by omega) (by omega) (rfl) (by intro k hk; simp at hk) S6 rfl
  exact L66_1 _ 4095 0 w1 (by omega) (by omega) (by intro j hj; simp at hj) (by show _ = ((guardN f.gGuarded : Nat) : Int); rw [fk1]; rfl) S1 rfl
 refine J.head (.bool false) (congrArg Value.bool fk1) ?_
 refine J.run 11 K66_42 [(14, .pointer (some ⟨b1, 4, none⟩)), (5, .int .u64 0), (4, .int .u64 0), (1, .pointer (some ⟨b1, 0, none⟩))] w1 (by kernel_rfl) ?_
 refine J.ok (OK.ldBox S1 0 15 32 4 (.slice f.gSignals_a f.gSignals_n f.gSignals_c) (by kernel_rfl) rfl (by kernel_rfl)) ?_
 refine J.run 5 K66_43 [(17, .int .i64 0), (16, .int .i64 (f.gSignals_n : Int)), (15, .slice f.gSignals_a f.gSignals_n f.gSignals_c), (5, .int .u64 0), (4, .int .u64 0), (1, .pointer (some ⟨b1, 0, none⟩))] w1 (by kernel_rfl) ?_
 have L66_3 : ∀ (mm_ : Nat) (tk : Int) (i : Int) (w9 : World), (0 ≤ i) → (i ≤ (f.gSignals_n : Int)) → (∀ j, j < (i).toNat → sigErr f j = 0) → (tk = ((tkN f (i).toNat : Nat) : Int)) → Sep w [box b1 [.string f.gName, .int .i64 f.gID, .int .i64 f.gLength, .bool f.gGuarded, .slice f.gSignals_a f.gSignals_n f.gSignals_c] 34] w9 → ((f.gSignals_n : Int) - i).toNat = mm_ → J Tryd.prog 66 71 R K66_43 [(17, .int .i64 i), (16, .int .i64 (f.gSignals_n : Int)), (15, .slice f.gSignals_a f.gSignals_n f.gSignals_c), (5, .int .u64 0), (4, .int .u64 tk), (1, .pointer (some ⟨b1, 0, none⟩))] w9 := by
  intro mm3
  induction mm3 using Nat.strongRecOn with
  | _ mm3 ih3 =>
  intro tk i w9 h0 h1 hq ht S11 hm3
  refine J.run 5 K66_44 [(18, .bool (decide (i < (f.gSignals_n : Int)))), (17, .int .i64 i), (16, .int .i64 (f.gSignals_n : Int)), (15, .slice f.gSignals_a f.gSignals_n f.gSignals_c), (5, .int .u64 0), (4, .int .u64 tk), (1, .pointer (some ⟨b1, 0, none⟩))] w9 (by kernel_rfl) ?_
  by_cases fk9 : i < (f.gSignals_n : Int)
  rotate_left
  ·skip
   refine J.head (.bool false) (congrArg Value.bool (decide_eq_false fk9)) ?_
   refine J.run 7 K66_80 [(3, .int .i64 0), (2, .string ByteArray.empty)] w9 (by kernel_rfl) ?_
   refine J.ret Tryd.f66 [.string ByteArray.empty, .int .i64 0] Tryd.func66 ⟨by kernel_rfl, by kernel_rfl, trivial⟩ ?_
   refine hR _ _ ?_
   obtain ⟨r1, r2⟩ := sigs_none (f := f) fun j hj => hq j (by omega)
   exact ⟨by rw [tup_two, r1, r2], S11.nil⟩
  refine J.head (.bool true) (congrArg Value.bool (decide_eq_true fk9)) ?_
  refine J.run 7 K66_45 [(19, .int .i64 i), (17, .int .i64 i), (16, .int .i64 (f.gSignals_n : Int)), (15, .slice f.gSignals_a f.gSignals_n f.gSignals_c), (5, .int .u64 0), (4, .int .u64 tk), (1, .pointer (some ⟨b1, 0, none⟩))] w9 (by kernel_rfl) ?_
  obtain ⟨p3, hp3, hc2⟩ := q5.at sig0 (i).toNat (by omega)
  have hel2 := getD_Q q6 sig0 (n := (i).toNat) (by have := q5.len_eq; omega)
  obtain ⟨q15, q16, q17, q18, q19, q20, q21, q22, _⟩ := id hel2
  refine J.ok (OK.index 20 32 10 f.gSignals_a p3 f.gSignals_n (i).toNat i (p3.add ((i).toNat * 10)) (by kernel_rfl) (by kernel_rfl) hp3 (by omega) (by omega) rfl) ?_
  refine J.ok (OK.ldCells 21 57 (p3.add ((i).toNat * 10)) [.string ((f.gSignals_l.getD (i).toNat sig0).gName), .int .i64 ((f.gSignals_l.getD (i).toNat sig0).gStart), .int .i64 ((f.gSignals_l.getD (i).toNat sig0).gLength), .bool ((f.gSignals_l.getD (i).toNat sig0).gMotorola), .bool ((f.gSignals_l.getD (i).toNat sig0).gSigned), .int .i64 ((f.gSignals_l.getD (i).toNat sig0).gNum), .int .i64 ((f.gSignals_l.getD (i).toNat sig0).gOff), .int .i64 ((f.gSignals_l.getD (i).toNat sig0).gDen), .int .i64 ((f.gSignals_l.getD (i).toNat sig0).gLow), .int .i64 ((f.gSignals_l.getD (i).toNat sig0).gHigh)] (by kernel_rfl) (by kernel_rfl) (by kernel_rfl) (fun j_ v_ hj_ => S11.cell (hc2 j_ v_ hj_))) ?_
  refine J.new S11 7 [.string ByteArray.empty, .int .i64 0, .int .i64 0, .bool false, .bool false, .int .i64 0, .int .i64 0, .int .i64 0, .int .i64 0, .int .i64 0] 57 (by kernel_rfl) ?_
  intro b3 w10 S12
  refine J.run 1 K66_46 [(6, .int .i64 i), (7, .pointer (some ⟨b3, 0, none⟩)), (21, .agg #[.string ((f.gSignals_l.getD (i).toNat sig0).gName), .int .i64 ((f.gSignals_l.getD (i).toNat sig0).gStart), .int .i64 ((f.gSignals_l.getD (i).toNat sig0).gLength), .bool ((f.gSignals_l.getD (i).toNat sig0).gMotorola), .bool ((f.gSignals_l.getD (i).toNat sig0).gSigned), .int .i64 ((f.gSignals_l.getD (i).toNat sig0).gNum), .int .i64 ((f.gSignals_l.getD (i).toNat sig0).gOff), .int .i64 ((f.gSignals_l.getD (i).toNat sig0).gDen), .int .i64 ((f.gSignals_l.getD (i).toNat sig0).gLow), .int .i64 ((f.gSignals_l.getD (i).toNat sig0).gHigh)]), (17, .int .i64 i), (16, .int .i64 (f.gSignals_n : Int)), (15, .slice f.gSignals_a f.gSignals_n f.gSignals_c), (5, .int .u64 0), (4, .int .u64 tk), (1, .pointer (some ⟨b1, 0, none⟩))] w10 (by kernel_rfl) ?_
  refine J.stBox S12 0 57 0 (.agg #[.string ((f.gSignals_l.getD (i).toNat sig0).gName), .int .i64 ((f.gSignals_l.getD (i).toNat sig0).gStart), .int .i64 ((f.gSignals_l.getD (i).toNat sig0).gLength), .bool ((f.gSignals_l.getD (i).toNat sig0).gMotorola), .bool ((f.gSignals_l.getD (i).toNat sig0).gSigned), .int .i64 ((f.gSignals_l.getD (i).toNat sig0).gNum), .int .i64 ((f.gSignals_l.getD (i).toNat sig0).gOff), .int .i64 ((f.gSignals_l.getD (i).toNat sig0).gDen), .int .i64 ((f.gSignals_l.getD (i).toNat sig0).gLow), .int .i64 ((f.gSignals_l.getD (i).toNat sig0).gHigh)]) [.string ((f.gSignals_l.getD (i).toNat sig0).gName), .int .i64 ((f.gSignals_l.getD (i).toNat sig0).gStart), .int .i64 ((f.gSignals_l.getD (i).toNat sig0).gLength), .bool ((f.gSignals_l.getD (i).toNat sig0).gMotorola), .bool ((f.gSignals_l.getD (i).toNat sig0).gSigned), .int .i64 ((f.gSignals_l.getD (i).toNat sig0).gNum), .int .i64 ((f.gSignals_l.getD (i).toNat sig0).gOff), .int .i64 ((f.gSignals_l.getD (i).toNat sig0).gDen), .int .i64 ((f.gSignals_l.getD (i).toNat sig0).gLow), .int .i64 ((f.gSignals_l.getD (i).toNat sig0).gHigh)] [box b3 [.string ((f.gSignals_l.getD (i).toNat sig0).gName), .int .i64 ((f.gSignals_l.getD (i).toNat sig0).gStart), .int .i64 ((f.gSignals_l.getD (i).toNat sig0).gLength), .bool ((f.gSignals_l.getD (i).toNat sig0).gMotorola), .bool ((f.gSignals_l.getD (i).toNat sig0).gSigned), .int .i64 ((f.gSignals_l.getD (i).toNat sig0).gNum), .int .i64 ((f.gSignals_l.getD (i).toNat sig0).gOff), .int .i64 ((f.gSignals_l.getD (i).toNat sig0).gDen), .int .i64 ((f.gSignals_l.getD (i).toNat sig0).gLow), .int .i64 ((f.gSignals_l.getD (i).toNat sig0).gHigh)] 57, box b1 [.string f.gName, .int .i64 f.gID, .int .i64 f.gLength, .bool f.gGuarded, .slice f.gSignals_a f.gSignals_n f.gSignals_c] 34] (by kernel_rfl) rfl (by kernel_rfl) (by kernel_rfl) rfl ?_
  intro w11 S13
  refine J.run 4 K66_47 [(6, .int .i64 i), (7, .pointer (some ⟨b3, 0, none⟩)), (17, .int .i64 i), (16, .int .i64 (f.gSignals_n : Int)), (15, .slice f.gSignals_a f.gSignals_n f.gSignals_c), (5, .int .u64 0), (4, .int .u64 tk), (1, .pointer (some ⟨b1, 0, none⟩))] w11 (by kernel_rfl) ?_
  refine J.ok (OK.ldBox S13 0 22 57 0 (.agg #[.string ((f.gSignals_l.getD (i).toNat sig0).gName), .int .i64 ((f.gSignals_l.getD (i).toNat sig0).gStart), .int .i64 ((f.gSignals_l.getD (i).toNat sig0).gLength), .bool ((f.gSignals_l.getD (i).toNat sig0).gMotorola), .bool ((f.gSignals_l.getD (i).toNat sig0).gSigned), .int .i64 ((f.gSignals_l.getD (i).toNat sig0).gNum), .int .i64 ((f.gSignals_l.getD (i).toNat sig0).gOff), .int .i64 ((f.gSignals_l.getD (i).toNat sig0).gDen), .int .i64 ((f.gSignals_l.getD (i).toNat sig0).gLow), .int .i64 ((f.gSignals_l.getD (i).toNat sig0).gHigh)]) (by kernel_rfl) rfl (by kernel_rfl)) ?_
  refine J.callF 23 52 #[.agg #[.string ((f.gSignals_l.getD (i).toNat sig0).gName), .int .i64 ((f.gSignals_l.getD (i).toNat sig0).gStart), .int .i64 ((f.gSignals_l.getD (i).toNat sig0).gLength), .bool ((f.gSignals_l.getD (i).toNat sig0).gMotorola), .bool ((f.gSignals_l.getD (i).toNat sig0).gSigned), .int .i64 ((f.gSignals_l.getD (i).toNat sig0).gNum), .int .i64 ((f.gSignals_l.getD (i).toNat sig0).gOff), .int .i64 ((f.gSignals_l.getD (i).toNat sig0).gDen), .int .i64 ((f.gSignals_l.getD (i).toNat sig0).gLow), .int .i64 ((f.gSignals_l.getD (i).toNat sig0).gHigh)]] hb52 (by kernel_rfl) (valid_rec (f.gSignals_l.getD (i).toNat sig0) _ (sigQ_sep hel2 S13)) ?_
  rintro _ w12 ⟨rfl, T4⟩
  have S14 : Sep w [box b3 [.string ((f.gSignals_l.getD (i).toNat sig0).gName), .int .i64 ((f.gSignals_l.getD (i).toNat sig0).gStart), .int .i64 ((f.gSignals_l.getD (i).toNat sig0).gLength), .bool ((f.gSignals_l.getD (i).toNat sig0).gMotorola), .bool ((f.gSignals_l.getD (i).toNat sig0).gSigned), .int .i64 ((f.gSignals_l.getD (i).toNat sig0).gNum), .int .i64 ((f.gSignals_l.getD (i).toNat sig0).gOff), .int .i64 ((f.gSignals_l.getD (i).toNat sig0).gDen), .int .i64 ((f.gSignals_l.getD (i).toNat sig0).gLow), .int .i64 ((f.gSignals_l.getD (i).toNat sig0).gHigh)] 57, box b1 [.string f.gName, .int .i64 f.gID, .int .i64 f.gLength, .bool f.gGuarded, .slice f.gSignals_a f.gSignals_n f.gSignals_c] 34] w12 := S13.trans T4
  clear T4 S13
  refine J.run 2 K66_48 [(24, .bool (!(sigOK (f.gSignals_l.getD (i).toNat sig0)))), (6, .int .i64 i), (7, .pointer (some ⟨b3, 0, none⟩)), (17, .int .i64 i), (16, .int .i64 (f.gSignals_n : Int)), (15, .slice f.gSignals_a f.gSignals_n f.gSignals_c), (5, .int .u64 0), (4, .int .u64 tk), (1, .pointer (some ⟨b1, 0, none⟩))] w12 (by kernel_rfl) ?_
  rcases Bool.eq_false_or_eq_true (sigOK (f.gSignals_l.getD (i).toNat sig0)) with fk10 | fk10
  rotate_left
  ·skip
   refine J.head (.bool true) (congrArg Value.bool (by rw [fk10]; rfl)) ?_
   refine J.run 4 K66_78 [(25, .pointer (some ⟨b3, 0, none⟩))] w12 (by kernel_rfl) ?_
   refine J.ok (OK.ldBox S14 0 26 9 0 (.string ((f.gSignals_l.getD (i).toNat sig0).gName)) (by kernel_rfl) rfl (by kernel_rfl)) ?_
   refine J.run 3 K66_79 [(3, .int .i64 1), (2, .string ((f.gSignals_l.getD (i).toNat sig0).gName))] w12 (by kernel_rfl) ?_
   refine J.ret Tryd.f66 [.string ((f.gSignals_l.getD (i).toNat sig0).gName), .int .i64 1] Tryd.func66 ⟨by kernel_rfl, by kernel_rfl, trivial⟩ ?_
   refine hR _ _ ?_
   obtain ⟨r1, r2⟩ := sigs_at (by omega) hq (sig_e1 fk10) (by decide)
   exact ⟨by rw [tup_two, r1, r2], S14.nil⟩
  refine J.head (.bool false) (congrArg Value.bool (by rw [fk10]; rfl)) ?_
  refine J.run 9 K66_49 [(8, .int .u64 0), (6, .int .i64 i), (7, .pointer (some ⟨b3, 0, none⟩)), (17, .int .i64 i), (16, .int .i64 (f.gSignals_n : Int)), (15, .slice f.gSignals_a f.gSignals_n f.gSignals_c), (5, .int .u64 0), (4, .int .u64 tk), (1, .pointer (some ⟨b1, 0, none⟩))] w12 (by kernel_rfl) ?_
  refine J.ok (OK.ldBox S14 0 27 57 0 (.agg #[.string ((f.gSignals_l.getD (i).toNat sig0).gName), .int .i64 ((f.gSignals_l.getD (i).toNat sig0).gStart), .int .i64 ((f.gSignals_l.getD (i).toNat sig0).gLength), .bool ((f.gSignals_l.getD (i).toNat sig0).gMotorola), .bool ((f.gSignals_l.getD (i).toNat sig0).gSigned), .int .i64 ((f.gSignals_l.getD (i).toNat sig0).gNum), .int .i64 ((f.gSignals_l.getD (i).toNat sig0).gOff), .int .i64 ((f.gSignals_l.getD (i).toNat sig0).gDen), .int .i64 ((f.gSignals_l.getD (i).toNat sig0).gLow), .int .i64 ((f.gSignals_l.getD (i).toNat sig0).gHigh)]) (by kernel_rfl) rfl (by kernel_rfl)) ?_
  refine J.callF 28 24 #[.agg #[.string ((f.gSignals_l.getD (i).toNat sig0).gName), .int .i64 ((f.gSignals_l.getD (i).toNat sig0).gStart), .int .i64 ((f.gSignals_l.getD (i).toNat sig0).gLength), .bool ((f.gSignals_l.getD (i).toNat sig0).gMotorola), .bool ((f.gSignals_l.getD (i).toNat sig0).gSigned), .int .i64 ((f.gSignals_l.getD (i).toNat sig0).gNum), .int .i64 ((f.gSignals_l.getD (i).toNat sig0).gOff), .int .i64 ((f.gSignals_l.getD (i).toNat sig0).gDen), .int .i64 ((f.gSignals_l.getD (i).toNat sig0).gLow), .int .i64 ((f.gSignals_l.getD (i).toNat sig0).gHigh)]] hb24 (by kernel_rfl) (bits_rec (f.gSignals_l.getD (i).toNat sig0) _ (sigQ_sep hel2 S14)) ?_
  rintro _ w13 ⟨ra2, rc2, rfl, T5⟩
  have S15 : Sep w [rowOf encI ra2 rc2 3 1 (sbits (f.gSignals_l.getD (i).toNat sig0)), box b3 [.string ((f.gSignals_l.getD (i).toNat sig0).gName), .int .i64 ((f.gSignals_l.getD (i).toNat sig0).gStart), .int .i64 ((f.gSignals_l.getD (i).toNat sig0).gLength), .bool ((f.gSignals_l.getD (i).toNat sig0).gMotorola), .bool ((f.gSignals_l.getD (i).toNat sig0).gSigned), .int .i64 ((f.gSignals_l.getD (i).toNat sig0).gNum), .int .i64 ((f.gSignals_l.getD (i).toNat sig0).gOff), .int .i64 ((f.gSignals_l.getD (i).toNat sig0).gDen), .int .i64 ((f.gSignals_l.getD (i).toNat sig0).gLow), .int .i64 ((f.gSignals_l.getD (i).toNat sig0).gHigh)] 57, box b1 [.string f.gName, .int .i64 f.gID, .int .i64 f.gLength, .bool f.gGuarded, .slice f.gSignals_a f.gSignals_n f.gSignals_c] 34] w13 := S14.trans T5
  clear T5 S14
  have := sbits_len (f.gSignals_l.getD (i).toNat sig0)
  refine J.run 5 K66_50 [(30, .int .i64 0), (29, .int .i64 ((sbits (f.gSignals_l.getD (i).toNat sig0)).length : Int)), (28, .slice ra2 ((sbits (f.gSignals_l.getD (i).toNat sig0)).length) rc2), (8, .int .u64 0), (6, .int .i64 i), (7, .pointer (some ⟨b3, 0, none⟩)), (17, .int .i64 i), (16, .int .i64 (f.gSignals_n : Int)), (15, .slice f.gSignals_a f.gSignals_n f.gSignals_c), (5, .int .u64 0), (4, .int .u64 tk), (1, .pointer (some ⟨b1, 0, none⟩))] w13 (by kernel_rfl) ?_
  have L66_4 : ∀ (mm_ : Nat) (own : Int) (j : Int) (w14 : World), (0 ≤ j) → (j ≤ ((sbits (f.gSignals_l.getD (i).toNat sig0)).length : Int)) → (own = ((maskN ((sbits (f.gSignals_l.getD (i).toNat sig0)).take (j).toNat) : Nat) : Int)) → (∀ k, k < (j).toNat → outB f ((sbits (f.gSignals_l.getD (i).toNat sig0)).getD k 0) = false) → Sep w [rowOf encI ra2 rc2 3 1 (sbits (f.gSignals_l.getD (i).toNat sig0)), box b3 [.string ((f.gSignals_l.getD (i).toNat sig0).gName), .int .i64 ((f.gSignals_l.getD (i).toNat sig0).gStart), .int .i64 ((f.gSignals_l.getD (i).toNat sig0).gLength), .bool ((f.gSignals_l.getD (i).toNat sig0).gMotorola), .bool ((f.gSignals_l.getD (i).toNat sig0).gSigned), .int .i64 ((f.gSignals_l.getD (i).toNat sig0).gNum), .int .i64 ((f.gSignals_l.getD (i).toNat sig0).gOff), .int .i64 ((f.gSignals_l.getD (i).toNat sig0).gDen), .int .i64 ((f.gSignals_l.getD (i).toNat sig0).gLow), .int .i64 ((f.gSignals_l.getD (i).toNat sig0).gHigh)] 57, box b1 [.string f.gName, .int .i64 f.gID, .int .i64 f.gLength, .bool f.gGuarded, .slice f.gSignals_a f.gSignals_n f.gSignals_c] 34] w14 → (((sbits (f.gSignals_l.getD (i).toNat sig0)).length : Int) - j).toNat = mm_ → J Tryd.prog 66 71 R K66_50 [(30, .int .i64 j), (29, .int .i64 ((sbits (f.gSignals_l.getD (i).toNat sig0)).length : Int)), (28, .slice ra2 ((sbits (f.gSignals_l.getD (i).toNat sig0)).length) rc2), (8, .int .u64 own), (6, .int .i64 i), (7, .pointer (some ⟨b3, 0, none⟩)), (17, .int .i64 i), (16, .int .i64 (f.gSignals_n : Int)), (15, .slice f.gSignals_a f.gSignals_n f.gSignals_c), (5, .int .u64 0), (4, .int .u64 tk), (1, .pointer (some ⟨b1, 0, none⟩))] w14 := by
   intro mm4
   induction mm4 using Nat.strongRecOn with
   | _ mm4 ih4 =>
   intro own j w14 j0 j1 hown hin S16 hm4
   have hbp : j < ((sbits (f.gSignals_l.getD (i).toNat sig0)).length : Int) → _ := fun h => sbits_pos (s := f.gSignals_l.getD (i).toNat sig0) _ (getD_mem (n := j.toNat) 0 (by omega))
   refine J.run 5 K66_51 [(31, .bool (decide (j < ((sbits (f.gSignals_l.getD (i).toNat sig0)).length : Int)))), (30, .int .i64 j), (29, .int .i64 ((sbits (f.gSignals_l.getD (i).toNat sig0)).length : Int)), (28, .slice ra2 ((sbits (f.gSignals_l.getD (i).toNat sig0)).length) rc2), (8, .int .u64 own), (6, .int .i64 i), (7, .pointer (some ⟨b3, 0, none⟩)), (17, .int .i64 i), (16, .int .i64 (f.gSignals_n : Int)), (15, .slice f.gSignals_a f.gSignals_n f.gSignals_c), (5, .int .u64 0), (4, .int .u64 tk), (1, .pointer (some ⟨b1, 0, none⟩))] w14 (by kernel_rfl) ?_
   by_cases fk11 : j < ((sbits (f.gSignals_l.getD (i).toNat sig0)).length : Int)
   rotate_left
   ·skip
    refine J.head (.bool false) (congrArg Value.bool (decide_eq_false fk11)) ?_
    have hown2 := own_all fk11 j1 hown
    have hino : (sbits (f.gSignals_l.getD (i).toNat sig0)).any (outB f) = false := none_bits fun k hk => hin k (by omega)
    have hlt1 := own_all_lt hL.2 hino
    have hlt2 := tkN_lt (f := f) (k := i.toNat) (by omega) hL.2 hq
    refine J.run 8 K66_66 [(55, .int .u64 (IntKind.wrap .u64 ((BitVec.ofInt 64 own &&& (BitVec.ofInt 64 tk)).toNat : Int))), (8, .int .u64 own), (6, .int .i64 i), (7, .pointer (some ⟨b3, 0, none⟩)), (17, .int .i64 i), (16, .int .i64 (f.gSignals_n : Int)), (15, .slice f.gSignals_a f.gSignals_n f.gSignals_c), (5, .int .u64 0), (4, .int .u64 tk), (1, .pointer (some ⟨b1, 0, none⟩))] w14 (by kernel_rfl) ?_
    refine J.head (.int .u64 ((maskN (sbits (f.gSignals_l.getD (i).toNat sig0)) &&& tkN f i.toNat : Nat) : Int)) (congrArg (Value.int .u64) (by rw [hown2, ht]; exact and_u64 hlt1 hlt2)) ?_
    refine J.run 2 K66_67 [(57, .bool (((maskN (sbits (f.gSignals_l.getD (i).toNat sig0)) &&& tkN f i.toNat : Nat) : Int) != 0)), (8, .int .u64 own), (6, .int .i64 i), (7, .pointer (some ⟨b3, 0, none⟩)), (17, .int .i64 i), (16, .int .i64 (f.gSignals_n : Int)), (15, .slice f.gSignals_a f.gSignals_n f.gSignals_c), (5, .int .u64 0), (4, .int .u64 tk), (1, .pointer (some ⟨b1, 0, none⟩))] w14 (by kernel_rfl) ?_
    by_cases fk14 : ((maskN (sbits (f.gSignals_l.getD (i).toNat sig0)) &&& tkN f i.toNat : Nat) : Int) = 0
    rotate_left
    ·skip
     refine J.head (.bool true) (congrArg Value.bool (bne_iff_ne.2 fk14)) ?_
     refine J.run 12 K66_76 [(65, .pointer (some ⟨b3, 0, none⟩))] w14 (by kernel_rfl) ?_
     refine J.ok (OK.ldBox S16 1 66 9 0 (.string ((f.gSignals_l.getD (i).toNat sig0).gName)) (by kernel_rfl) rfl (by kernel_rfl)) ?_
     refine J.run 3 K66_77 [(3, .int .i64 8), (2, .string ((f.gSignals_l.getD (i).toNat sig0).gName))] w14 (by kernel_rfl) ?_
     refine J.ret Tryd.f66 [.string ((f.gSignals_l.getD (i).toNat sig0).gName), .int .i64 8] Tryd.func66 ⟨by kernel_rfl, by kernel_rfl, trivial⟩ ?_
     refine hR _ _ ?_
     obtain ⟨r1, r2⟩ := sigs_at (by omega) hq (sig_e8 fk10 hino (.inr (by cases hla : (f.gSignals_l.take i.toNat).any (lapB (f.gSignals_l.getD (i).toNat sig0)) with | true => rfl | false => exact absurd (congrArg Nat.cast ((lap_iff (by omega) hino).2 hla)) fk14))) (by decide)
     exact ⟨by rw [tup_two, r1, r2], S16.nil⟩
    refine J.head (.bool false) (congrArg Value.bool (bne_eq_false_iff_eq.2 fk14)) ?_
    refine J.run 1 K66_68 [(58, .pointer (some ⟨b1, 4, none⟩)), (57, .bool false), (8, .int .u64 own), (6, .int .i64 i), (7, .pointer (some ⟨b3, 0, none⟩)), (17, .int .i64 i), (16, .int .i64 (f.gSignals_n : Int)), (15, .slice f.gSignals_a f.gSignals_n f.gSignals_c), (5, .int .u64 0), (4, .int .u64 tk), (1, .pointer (some ⟨b1, 0, none⟩))] w14 (by kernel_rfl) ?_
    refine J.ok (OK.ldBox S16 2 59 32 4 (.slice f.gSignals_a f.gSignals_n f.gSignals_c) (by kernel_rfl) rfl (by kernel_rfl)) ?_
    refine J.run 1 K66_69 [(60, .int .i64 i), (59, .slice f.gSignals_a f.gSignals_n f.gSignals_c), (57, .bool false), (8, .int .u64 own), (7, .pointer (some ⟨b3, 0, none⟩)), (17, .int .i64 i), (16, .int .i64 (f.gSignals_n : Int)), (15, .slice f.gSignals_a f.gSignals_n f.gSignals_c), (5, .int .u64 0), (4, .int .u64 tk), (1, .pointer (some ⟨b1, 0, none⟩))] w14 (by kernel_rfl) ?_
    refine J.ok (OK.slice 61 32 10 f.gSignals_a f.gSignals_n f.gSignals_c none (some (.int .i64 i)) 0 ((i).toNat) (by kernel_rfl) (by kernel_rfl) (.inl ⟨rfl, rfl⟩) (.inr ⟨_, _, rfl, by omega⟩) (by first | omega | (simp; omega)) (by first | omega | (simp; omega))) ?_
    refine J.head (.slice f.gSignals_a ((i).toNat) f.gSignals_c) (by rw [subA_zero]; try rfl) ?_
    refine J.run 1 K66_70 [(62, .func (.func 85) #[] #[.pointer (some ⟨b3, 0, none⟩)]), (61, .slice f.gSignals_a ((i).toNat) f.gSignals_c), (57, .bool false), (8, .int .u64 own), (7, .pointer (some ⟨b3, 0, none⟩)), (17, .int .i64 i), (16, .int .i64 (f.gSignals_n : Int)), (15, .slice f.gSignals_a f.gSignals_n f.gSignals_c), (5, .int .u64 0), (4, .int .u64 tk), (1, .pointer (some ⟨b1, 0, none⟩))] w14 (by kernel_rfl) ?_
    refine J.callF 63 27 #[.slice f.gSignals_a ((i).toNat) f.gSignals_c, .func (.func 85) #[] #[.pointer (some ⟨b3, 0, none⟩)]] hb27 (by kernel_rfl) (containsSg1 f.gSignals_a ((i).toNat) f.gSignals_c (f.gSignals_l.take ((i).toNat)) 85 (.pointer (some ⟨b3, 0, none⟩)) (fun x => eqT x.gName (f.gSignals_l.getD (i).toNat sig0).gName) _ ((q5.sep S16).take ((i).toNat) (by first | omega | (simp; omega))) (by first | omega | (simp; omega)) hb85 (fun i_ w_ hi_ S_ => samename_any (f.gSignals_l.getD (i).toNat sig0) _ b3 w_ (box_keep (S16.nth 1 rfl) S_))) ?_
    rintro _ w15 ⟨rfl, T6⟩
    have S17 : Sep w [rowOf encI ra2 rc2 3 1 (sbits (f.gSignals_l.getD (i).toNat sig0)), box b3 [.string ((f.gSignals_l.getD (i).toNat sig0).gName), .int .i64 ((f.gSignals_l.getD (i).toNat sig0).gStart), .int .i64 ((f.gSignals_l.getD (i).toNat sig0).gLength), .bool ((f.gSignals_l.getD (i).toNat sig0).gMotorola), .bool ((f.gSignals_l.getD (i).toNat sig0).gSigned), .int .i64 ((f.gSignals_l.getD (i).toNat sig0).gNum), .int .i64 ((f.gSignals_l.getD (i).toNat sig0).gOff), .int .i64 ((f.gSignals_l.getD (i).toNat sig0).gDen), .int .i64 ((f.gSignals_l.getD (i).toNat sig0).gLow), .int .i64 ((f.gSignals_l.getD (i).toNat sig0).gHigh)] 57, box b1 [.string f.gName, .int .i64 f.gID, .int .i64 f.gLength, .bool f.gGuarded, .slice f.gSignals_a f.gSignals_n f.gSignals_c] 34] w15 := S16.trans T6
    clear T6 S16
    refine J.run 2 K66_71 [(64, .bool (List.any (f.gSignals_l.take ((i).toNat)) (fun x => eqT x.gName (f.gSignals_l.getD (i).toNat sig0).gName))), (8, .int .u64 own), (7, .pointer (some ⟨b3, 0, none⟩)), (17, .int .i64 i), (16, .int .i64 (f.gSignals_n : Int)), (15, .slice f.gSignals_a f.gSignals_n f.gSignals_c), (5, .int .u64 0), (4, .int .u64 tk), (1, .pointer (some ⟨b1, 0, none⟩))] w15 (by kernel_rfl) ?_
    rcases Bool.eq_false_or_eq_true (List.any (f.gSignals_l.take ((i).toNat)) (fun x => eqT x.gName (f.gSignals_l.getD (i).toNat sig0).gName)) with fk15 | fk15
    ·skip
     refine J.head (.bool true) (congrArg Value.bool fk15) ?_
     refine J.run 4 K66_72 [(65, .pointer (some ⟨b3, 0, none⟩))] w15 (by kernel_rfl) ?_
     refine J.ok (OK.ldBox S17 1 66 9 0 (.string ((f.gSignals_l.getD (i).toNat sig0).gName)) (by kernel_rfl) rfl (by kernel_rfl)) ?_
     refine J.run 3 K66_73 [(3, .int .i64 8), (2, .string ((f.gSignals_l.getD (i).toNat sig0).gName))] w15 (by kernel_rfl) ?_
     refine J.ret Tryd.f66 [.string ((f.gSignals_l.getD (i).toNat sig0).gName), .int .i64 8] Tryd.func66 ⟨by kernel_rfl, by kernel_rfl, trivial⟩ ?_
     refine hR _ _ ?_
     obtain ⟨r1, r2⟩ := sigs_at (by omega) hq (sig_e8 fk10 hino (.inl fk15)) (by decide)
     exact ⟨by rw [tup_two, r1, r2], S17.nil⟩
    refine J.head (.bool false) (congrArg Value.bool fk15) ?_
    refine J.run 6 K66_74 [(69, .int .u64 (IntKind.wrap .u64 ((BitVec.ofInt 64 tk ||| (BitVec.ofInt 64 own)).toNat : Int))), (17, .int .i64 i), (16, .int .i64 (f.gSignals_n : Int)), (15, .slice f.gSignals_a f.gSignals_n f.gSignals_c), (5, .int .u64 0), (1, .pointer (some ⟨b1, 0, none⟩))] w15 (by kernel_rfl) ?_
    refine J.head (.int .u64 ((tkN f (i + 1).toNat : Nat) : Int)) (congrArg (Value.int .u64) (by rw [hown2, ht, show (i + 1).toNat = i.toNat + 1 by omega]; exact or_u64 hlt2 hlt1)) ?_
    refine J.run 5 K66_75 [(70, .int .i64 (IntKind.wrap .i64 (i + 1))), (4, .int .u64 ((tkN f (i + 1).toNat : Nat) : Int)), (16, .int .i64 (f.gSignals_n : Int)), (15, .slice f.gSignals_a f.gSignals_n f.gSignals_c), (5, .int .u64 0), (1, .pointer (some ⟨b1, 0, none⟩))] w15 (by kernel_rfl) ?_
    refine J.head (.int .i64 (i + 1)) (congrArg (Value.int .i64) (IntWalk.i64_in _ (by omega))) ?_
    refine J.run 3 K66_43 [(17, .int .i64 (i + 1)), (4, .int .u64 ((tkN f (i + 1).toNat : Nat) : Int)), (16, .int .i64 (f.gSignals_n : Int)), (15, .slice f.gSignals_a f.gSignals_n f.gSignals_c), (5, .int .u64 0), (1, .pointer (some ⟨b1, 0, none⟩))] w15 (by kernel_rfl) ?_
    have S18 : Sep w [rowOf encI ra2 rc2 3 1 (sbits (f.gSignals_l.getD (i).toNat sig0)), box b1 [.string f.gName, .int .i64 f.gID, .int .i64 f.gLength, .bool f.gGuarded, .slice f.gSignals_a f.gSignals_n f.gSignals_c] 34] w15 := S17.erase 1
    clear S17
    have S19 : Sep w [box b1 [.string f.gName, .int .i64 f.gID, .int .i64 f.gLength, .bool f.gGuarded, .slice f.gSignals_a f.gSignals_n f.gSignals_c] 34] w15 := S18.erase 0
    clear S18
    refine J.run 0 K66_43 [(17, .int .i64 (i + 1)), (16, .int .i64 (f.gSignals_n : Int)), (15, .slice f.gSignals_a f.gSignals_n f.gSignals_c), (5, .int .u64 0), (4, .int .u64 ((tkN f (i + 1).toNat : Nat) : Int)), (1, .pointer (some ⟨b1, 0, none⟩))] w15 (by kernel_rfl) ?_
    exact ih3 _ (show ((f.gSignals_n : Int) - (i + 1)).toNat < mm3 from by omega) ((tkN f (i + 1).toNat : Nat) : Int) (i + 1) w15 (by omega) (by omega) (err_step h0 hq (sig_e0 fk10 hino fk15 ((lap_iff (by omega) hino).1 (by exact_mod_cast fk14)))) (rfl) S19 rfl
   refine J.head (.bool true) (congrArg Value.bool (decide_eq_true fk11)) ?_
   refine J.run 6 K66_52 [(30, .int .i64 j), (29, .int .i64 ((sbits (f.gSignals_l.getD (i).toNat sig0)).length : Int)), (28, .slice ra2 ((sbits (f.gSignals_l.getD (i).toNat sig0)).length) rc2), (8, .int .u64 own), (6, .int .i64 i), (7, .pointer (some ⟨b3, 0, none⟩)), (17, .int .i64 i), (16, .int .i64 (f.gSignals_n : Int)), (15, .slice f.gSignals_a f.gSignals_n f.gSignals_c), (5, .int .u64 0), (4, .int .u64 tk), (1, .pointer (some ⟨b1, 0, none⟩))] w14 (by kernel_rfl) ?_
   obtain ⟨p4, hp4⟩ := row1_addr (S16.nth 0 rfl) (show 0 < (sbits (f.gSignals_l.getD (i).toNat sig0)).length by first | omega | (simp; omega))
   refine J.ok (OK.index 32 59 1 ra2 p4 ((sbits (f.gSignals_l.getD (i).toNat sig0)).length) (j).toNat j (p4.add (j).toNat) (by kernel_rfl) (by kernel_rfl) hp4 (by omega) (by first | omega | (simp; omega)) (by rw [Nat.mul_one])) ?_
   refine J.ok (OK.ldCell 33 3 (p4.add (j).toNat) (.int .i64 ((sbits (f.gSignals_l.getD (i).toNat sig0)).getD (j).toNat 0)) (by kernel_rfl) (by kernel_rfl) (row1_cell (g := (Value.int .i64)) S16 0 rfl hp4 0 (j).toNat (by first | omega | (simp; omega)))) ?_
   refine J.run 7 K66_53 [(35, .pointer (some ⟨b1, 2, none⟩)), (34, .int .i64 ((sbits (f.gSignals_l.getD (i).toNat sig0)).getD (j).toNat 0)), (10, .int .i64 ((sbits (f.gSignals_l.getD (i).toNat sig0)).getD (j).toNat 0)), (30, .int .i64 j), (29, .int .i64 ((sbits (f.gSignals_l.getD (i).toNat sig0)).length : Int)), (28, .slice ra2 ((sbits (f.gSignals_l.getD (i).toNat sig0)).length) rc2), (8, .int .u64 own), (6, .int .i64 i), (7, .pointer (some ⟨b3, 0, none⟩)), (17, .int .i64 i), (16, .int .i64 (f.gSignals_n : Int)), (15, .slice f.gSignals_a f.gSignals_n f.gSignals_c), (5, .int .u64 0), (4, .int .u64 tk), (1, .pointer (some ⟨b1, 0, none⟩))] w14 (by kernel_rfl) ?_
   refine J.ok (OK.ldBox S16 2 36 3 2 (.int .i64 f.gLength) (by kernel_rfl) rfl (by kernel_rfl)) ?_
   refine J.run 1 K66_54 [(37, .int .i64 (IntKind.wrap .i64 (8 * f.gLength))), (34, .int .i64 ((sbits (f.gSignals_l.getD (i).toNat sig0)).getD (j).toNat 0)), (10, .int .i64 ((sbits (f.gSignals_l.getD (i).toNat sig0)).getD (j).toNat 0)), (30, .int .i64 j), (29, .int .i64 ((sbits (f.gSignals_l.getD (i).toNat sig0)).length : Int)), (28, .slice ra2 ((sbits (f.gSignals_l.getD (i).toNat sig0)).length) rc2), (8, .int .u64 own), (6, .int .i64 i), (7, .pointer (some ⟨b3, 0, none⟩)), (17, .int .i64 i), (16, .int .i64 (f.gSignals_n : Int)), (15, .slice f.gSignals_a f.gSignals_n f.gSignals_c), (5, .int .u64 0), (4, .int .u64 tk), (1, .pointer (some ⟨b1, 0, none⟩))] w14 (by kernel_rfl) ?_
   refine J.head (.int .i64 (8 * f.gLength)) (congrArg (Value.int .i64) (IntWalk.i64_in _ (by omega))) ?_
   refine J.run 2 K66_55 [(39, .bool (decide (((sbits (f.gSignals_l.getD (i).toNat sig0)).getD (j).toNat 0) ≥ (8 * f.gLength)))), (10, .int .i64 ((sbits (f.gSignals_l.getD (i).toNat sig0)).getD (j).toNat 0)), (30, .int .i64 j), (29, .int .i64 ((sbits (f.gSignals_l.getD (i).toNat sig0)).length : Int)), (28, .slice ra2 ((sbits (f.gSignals_l.getD (i).toNat sig0)).length) rc2), (8, .int .u64 own), (6, .int .i64 i), (7, .pointer (some ⟨b3, 0, none⟩)), (17, .int .i64 i), (16, .int .i64 (f.gSignals_n : Int)), (15, .slice f.gSignals_a f.gSignals_n f.gSignals_c), (5, .int .u64 0), (4, .int .u64 tk), (1, .pointer (some ⟨b1, 0, none⟩))] w14 (by kernel_rfl) ?_
   by_cases fk12 : ((sbits (f.gSignals_l.getD (i).toNat sig0)).getD (j).toNat 0) ≥ (8 * f.gLength)
   ·skip
    refine J.head (.bool true) (congrArg Value.bool (decide_eq_true fk12)) ?_
    refine J.run 11 K66_56 [(46, .pointer (some ⟨b3, 0, none⟩))] w14 (by kernel_rfl) ?_
    refine J.ok (OK.ldBox S16 1 47 9 0 (.string ((f.gSignals_l.getD (i).toNat sig0).gName)) (by kernel_rfl) rfl (by kernel_rfl)) ?_
    refine J.run 3 K66_57 [(3, .int .i64 2), (2, .string ((f.gSignals_l.getD (i).toNat sig0).gName))] w14 (by kernel_rfl) ?_
    refine J.ret Tryd.f66 [.string ((f.gSignals_l.getD (i).toNat sig0).gName), .int .i64 2] Tryd.func66 ⟨by kernel_rfl, by kernel_rfl, trivial⟩ ?_
    refine hR _ _ ?_
    obtain ⟨r1, r2⟩ := sigs_at (by omega) hq (sig_e2 fk10 (any_bits (j := j.toNat) (by omega) (out_far (by omega)))) (by decide)
    exact ⟨by rw [tup_two, r1, r2], S16.nil⟩
   refine J.head (.bool false) (congrArg Value.bool (decide_eq_false fk12)) ?_
   refine J.run 2 K66_58 [(41, .int .i64 ((sbits (f.gSignals_l.getD (i).toNat sig0)).getD (j).toNat 0)), (40, .int .u64 0), (39, .bool false), (10, .int .i64 ((sbits (f.gSignals_l.getD (i).toNat sig0)).getD (j).toNat 0)), (30, .int .i64 j), (29, .int .i64 ((sbits (f.gSignals_l.getD (i).toNat sig0)).length : Int)), (28, .slice ra2 ((sbits (f.gSignals_l.getD (i).toNat sig0)).length) rc2), (8, .int .u64 own), (6, .int .i64 i), (7, .pointer (some ⟨b3, 0, none⟩)), (17, .int .i64 i), (16, .int .i64 (f.gSignals_n : Int)), (15, .slice f.gSignals_a f.gSignals_n f.gSignals_c), (5, .int .u64 0), (4, .int .u64 tk), (1, .pointer (some ⟨b1, 0, none⟩))] w14 (by kernel_rfl) ?_
   refine J.ok (OK.shr 42 .u64 0 ((sbits (f.gSignals_l.getD (i).toNat sig0)).getD (j).toNat 0) ((guardN false / 2 ^ ((sbits (f.gSignals_l.getD (i).toNat sig0)).getD (j).toNat 0).toNat : Nat) : Int) (by kernel_rfl) (by omega) (guard_bit (g := false) (by omega) (by omega))) ?_
   refine J.run 1 K66_59 [(43, .int .u64 (IntKind.wrap .u64 ((BitVec.ofInt 64 ((guardN false / 2 ^ ((sbits (f.gSignals_l.getD (i).toNat sig0)).getD (j).toNat 0).toNat : Nat) : Int) &&& (BitVec.ofInt 64 (1 : Int))).toNat : Int))), (39, .bool false), (10, .int .i64 ((sbits (f.gSignals_l.getD (i).toNat sig0)).getD (j).toNat 0)), (30, .int .i64 j), (29, .int .i64 ((sbits (f.gSignals_l.getD (i).toNat sig0)).length : Int)), (28, .slice ra2 ((sbits (f.gSignals_l.getD (i).toNat sig0)).length) rc2), (8, .int .u64 own), (6, .int .i64 i), (7, .pointer (some ⟨b3, 0, none⟩)), (17, .int .i64 i), (16, .int .i64 (f.gSignals_n : Int)), (15, .slice f.gSignals_a f.gSignals_n f.gSignals_c), (5, .int .u64 0), (4, .int .u64 tk), (1, .pointer (some ⟨b1, 0, none⟩))] w14 (by kernel_rfl) ?_
   refine J.head (.int .u64 (((guardN false / 2 ^ ((sbits (f.gSignals_l.getD (i).toNat sig0)).getD (j).toNat 0).toNat : Nat) : Int) % 2)) (congrArg (Value.int .u64) (and_mask_u64 1 _ _ (by rfl) (by decide))) ?_
   refine J.run 3 K66_60 [(45, .bool ((((guardN false / 2 ^ ((sbits (f.gSignals_l.getD (i).toNat sig0)).getD (j).toNat 0).toNat : Nat) : Int) % 2) == 1)), (10, .int .i64 ((sbits (f.gSignals_l.getD (i).toNat sig0)).getD (j).toNat 0)), (30, .int .i64 j), (29, .int .i64 ((sbits (f.gSignals_l.getD (i).toNat sig0)).length : Int)), (28, .slice ra2 ((sbits (f.gSignals_l.getD (i).toNat sig0)).length) rc2), (8, .int .u64 own), (6, .int .i64 i), (7, .pointer (some ⟨b3, 0, none⟩)), (17, .int .i64 i), (16, .int .i64 (f.gSignals_n : Int)), (15, .slice f.gSignals_a f.gSignals_n f.gSignals_c), (5, .int .u64 0), (4, .int .u64 tk), (1, .pointer (some ⟨b1, 0, none⟩))] w14 (by kernel_rfl) ?_
   by_cases fk13 : (((guardN false / 2 ^ ((sbits (f.gSignals_l.getD (i).toNat sig0)).getD (j).toNat 0).toNat : Nat) : Int) % 2) = 1
   ·skip
    refine J.head (.bool true) (congrArg Value.bool (beq_iff_eq.2 fk13)) ?_
    refine J.run 4 K66_61 [(46, .pointer (some ⟨b3, 0, none⟩))] w14 (by kernel_rfl) ?_
    refine J.ok (OK.ldBox S16 1 47 9 0 (.string ((f.gSignals_l.getD (i).toNat sig0).gName)) (by kernel_rfl) rfl (by kernel_rfl)) ?_
    refine J.run 3 K66_62 [(3, .int .i64 2), (2, .string ((f.gSignals_l.getD (i).toNat sig0).gName))] w14 (by kernel_rfl) ?_
    refine J.ret Tryd.f66 [.string ((f.gSignals_l.getD (i).toNat sig0).gName), .int .i64 2] Tryd.func66 ⟨by kernel_rfl, by kernel_rfl, trivial⟩ ?_
    refine hR _ _ ?_
    obtain ⟨r1, r2⟩ := sigs_at (by omega) hq (sig_e2 fk10 (any_bits (j := j.toNat) (by omega) (out_guard fk1 (by omega) fk13))) (by decide)
    exact ⟨by rw [tup_two, r1, r2], S16.nil⟩
   refine J.head (.bool false) (congrArg Value.bool (beq_eq_false_iff_ne.2 fk13)) ?_
   refine J.run 5 K66_63 [(49, .int .i64 ((sbits (f.gSignals_l.getD (i).toNat sig0)).getD (j).toNat 0)), (48, .int .u64 own), (30, .int .i64 j), (29, .int .i64 ((sbits (f.gSignals_l.getD (i).toNat sig0)).length : Int)), (28, .slice ra2 ((sbits (f.gSignals_l.getD (i).toNat sig0)).length) rc2), (6, .int .i64 i), (7, .pointer (some ⟨b3, 0, none⟩)), (17, .int .i64 i), (16, .int .i64 (f.gSignals_n : Int)), (15, .slice f.gSignals_a f.gSignals_n f.gSignals_c), (5, .int .u64 0), (4, .int .u64 tk), (1, .pointer (some ⟨b1, 0, none⟩))] w14 (by kernel_rfl) ?_
   refine J.ok (OK.shl 50 .u64 1 ((sbits (f.gSignals_l.getD (i).toNat sig0)).getD (j).toNat 0) ((2 ^ ((sbits (f.gSignals_l.getD (i).toNat sig0)).getD (j).toNat 0).toNat : Nat) : Int) (by kernel_rfl) (by omega) (shl_u64 (by omega) (by omega))) ?_
   refine J.run 1 K66_64 [(51, .int .u64 (IntKind.wrap .u64 ((BitVec.ofInt 64 own ||| (BitVec.ofInt 64 ((2 ^ ((sbits (f.gSignals_l.getD (i).toNat sig0)).getD (j).toNat 0).toNat : Nat) : Int))).toNat : Int))), (30, .int .i64 j), (29, .int .i64 ((sbits (f.gSignals_l.getD (i).toNat sig0)).length : Int)), (28, .slice ra2 ((sbits (f.gSignals_l.getD (i).toNat sig0)).length) rc2), (6, .int .i64 i), (7, .pointer (some ⟨b3, 0, none⟩)), (17, .int .i64 i), (16, .int .i64 (f.gSignals_n : Int)), (15, .slice f.gSignals_a f.gSignals_n f.gSignals_c), (5, .int .u64 0), (4, .int .u64 tk), (1, .pointer (some ⟨b1, 0, none⟩))] w14 (by kernel_rfl) ?_
   refine J.head (.int .u64 ((maskN ((sbits (f.gSignals_l.getD (i).toNat sig0)).take (j + 1).toNat) : Nat) : Int)) (congrArg (Value.int .u64) (or_bits hL.2 j0 (by omega) hown hin (by omega))) ?_
   refine J.run 5 K66_65 [(52, .int .i64 (IntKind.wrap .i64 (j + 1))), (8, .int .u64 ((maskN ((sbits (f.gSignals_l.getD (i).toNat sig0)).take (j + 1).toNat) : Nat) : Int)), (29, .int .i64 ((sbits (f.gSignals_l.getD (i).toNat sig0)).length : Int)), (28, .slice ra2 ((sbits (f.gSignals_l.getD (i).toNat sig0)).length) rc2), (6, .int .i64 i), (7, .pointer (some ⟨b3, 0, none⟩)), (17, .int .i64 i), (16, .int .i64 (f.gSignals_n : Int)), (15, .slice f.gSignals_a f.gSignals_n f.gSignals_c), (5, .int .u64 0), (4, .int .u64 tk), (1, .pointer (some ⟨b1, 0, none⟩))] w14 (by kernel_rfl) ?_
   refine J.head (.int .i64 (j + 1)) (congrArg (Value.int .i64) (IntWalk.i64_in _ (by omega))) ?_
   refine J.run 3 K66_50 [(30, .int .i64 (j + 1)), (8, .int .u64 ((maskN ((sbits (f.gSignals_l.getD (i).toNat sig0)).take (j + 1).toNat) : Nat) : Int)), (29, .int .i64 ((sbits (f.gSignals_l.getD (i).toNat sig0)).length : Int)), (28, .slice ra2 ((sbits (f.gSignals_l.getD (i).toNat sig0)).length) rc2), (6, .int .i64 i), (7, .pointer (some ⟨b3, 0, none⟩)), (17, .int .i64 i), (16, .int .i64 (f.gSignals_n : Int)), (15, .slice f.gSignals_a f.gSignals_n f.gSignals_c), (5, .int .u64 0), (4, .int .u64 tk), (1, .pointer (some ⟨b1, 0, none⟩))] w14 (by kernel_rfl) ?_
   refine J.run 0 K66_50 [(30, .int .i64 (j + 1)), (29, .int .i64 ((sbits (f.gSignals_l.getD (i).toNat sig0)).length : Int)), (28, .slice ra2 ((sbits (f.gSignals_l.getD (i).toNat sig0)).length) rc2), (8, .int .u64 ((maskN ((sbits (f.gSignals_l.getD (i).toNat sig0)).take (j + 1).toNat) : Nat) : Int)), (6, .int .i64 i), (7, .pointer (some ⟨b3, 0, none⟩)), (17, .int .i64 i), (16, .int .i64 (f.gSignals_n : Int)), (15, .slice f.gSignals_a f.gSignals_n f.gSignals_c), (5, .int .u64 0), (4, .int .u64 tk), (1, .pointer (some ⟨b1, 0, none⟩))] w14 (by kernel_rfl) ?_
   exact ih4 _ (show (((sbits (f.gSignals_l.getD (i).toNat sig0)).length : Int) - (j + 1)).toNat < mm4 from by omega) ((maskN ((sbits (f.gSignals_l.getD (i).toNat sig0)).take (j + 1).toNat) : Nat) : Int) (j + 1) w14 (by omega) (by omega) (rfl) (bits_step j0 hin (out_no fk1 (by omega) (by omega) fk13)) S16 rfl
  exact L66_4 _ 0 0 w13 (by omega) (by omega) (rfl) (by intro k hk; simp at hk) S15 rfl
 exact L66_3 _ 0 0 w1 (by omega) (by omega) (by intro j hj; simp at hj) (by show _ = ((guardN f.gGuarded : Nat) : Int); rw [fk1]; rfl) S1 rfl

end
end Go.Proofs.YthiklimfffhbaaaDoor

