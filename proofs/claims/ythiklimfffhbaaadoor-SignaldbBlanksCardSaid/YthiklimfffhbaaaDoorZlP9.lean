/- Walks of functions of this seat, printed by a program over the engine. Conditions: as each theorem says. -/
import Derived.Test.YthiklimfffhbaaaDoorZlP8
namespace Go.Proofs.YthiklimfffhbaaaDoor
open Go.Eng Go.RowKit
set_option linter.unusedSimpArgs false
set_option linter.unusedVariables false
theorem before_cons (c x : UInt8) (p : List UInt8) : beforeL c (x :: p) = if x = c then [] else x :: beforeL c p := by
  unfold beforeL
  rw [splitOn]
  split
  · rfl
  · cases h : splitOn c p with
    | nil => exact absurd h (splitOn_ne c p)
    | cons a l => rfl
theorem before_len (c : UInt8) (l : List UInt8) : (beforeL c l).length ≤ l.length := by
  induction l with
  | nil => exact Nat.le_refl _
  | cons x l ih => rw [before_cons]; split <;> simp <;> omega
/-! the words of a line: texts with the columns where they begin -/
abbrev Wd := ByteArray × Int
abbrev wd0 : Wd := (ByteArray.empty, 0)
def wOf (cur : List UInt8) (col : Int) : List Wd := if cur = [] then [] else [(⟨cur.toArray⟩, col - (cur.length : Int))]
def wF : List UInt8 → List UInt8 → Int → List Wd
  | [], cur, col => wOf cur col
  | c :: r, cur, col => if c = 32 ∨ c = 9 then wOf cur col ++ wF r [] (col + 1) else wF r (cur ++ [c]) (col + 1)
theorem wOf_nil (col : Int) : wOf [] col = [] := rfl
theorem wOf_size {cur : List UInt8} {col : Int} : ∀ x ∈ wOf cur col, x.1.size ≤ cur.length ∧ x.1.size ≠ 0 := by
  intro x hx; unfold wOf at hx; split at hx
  · cases hx
  · rename_i h; rw [List.mem_singleton.1 hx]; cases cur with
    | nil => exact absurd rfl h
    | cons a l => exact ⟨Nat.le_refl _, by show (a :: l).toArray.size ≠ 0; simp⟩
theorem wF_size : ∀ (l cur : List UInt8) (col : Int), ∀ x ∈ wF l cur col, x.1.size ≤ cur.length + l.length ∧ x.1.size ≠ 0
  | [], cur, col => wOf_size
  | c :: r, cur, col => by
    intro x hx; rw [wF] at hx; split at hx
    · rcases List.mem_append.1 hx with hx | hx
      · have := wOf_size x hx; exact ⟨by omega, this.2⟩
      · have := wF_size r [] (col + 1) x hx; simp at this ⊢; exact ⟨by omega, this.2⟩
    · have := wF_size r (cur ++ [c]) (col + 1) x hx; simp at this ⊢; exact ⟨by omega, this.2⟩
/-! walking a line -/
theorem drop_at {s : ByteArray} {i : Int} (h0 : 0 ≤ i) (hi : i < (s.size : Int)) : (ls s).drop i.toNat = (ls s).getD i.toNat 0 :: (ls s).drop (i + 1).toNat := by
  have hl := ls_length s
  rw [show (i + 1).toNat = i.toNat + 1 by omega, List.getD_eq_getElem?_getD, List.getElem?_eq_getElem (by omega)]
  exact List.drop_eq_getElem_cons (by omega)
theorem drop_end {s : ByteArray} {i : Int} (hi : (s.size : Int) ≤ i) : (ls s).drop i.toNat = [] := by
  have hl := ls_length s
  exact List.drop_eq_nil_of_le (by omega)
theorem byte_is {s : ByteArray} {i : Nat} {k : Nat} (hk : k < 256) : (ls s).getD i 0 = UInt8.ofNat k ↔ byteAt s i = k := by
  rw [byteAt_ls]
  constructor
  · intro e; rw [e, UInt8.toNat_ofNat']; omega
  · intro e; apply UInt8.toNat_inj.1; rw [UInt8.toNat_ofNat']; omega
theorem ext_self (s : ByteArray) (i : Nat) : ls (s.extract i i) = [] := by
  rw [ls_extract]; exact List.drop_eq_nil_of_le (by rw [List.length_take]; omega)
theorem ext_step {s : ByteArray} {i k : Int} (h0 : 0 ≤ i) (hk : i ≤ k) (hs : k < (s.size : Int)) : ls (s.extract i.toNat (k + 1).toNat) = ls (s.extract i.toNat k.toNat) ++ [(ls s).getD k.toNat 0] := by
  have hl := ls_length s
  rw [ls_extract, ls_extract, show (k + 1).toNat = k.toNat + 1 by omega, List.take_succ_eq_append_getElem (by omega), List.drop_append_of_le_length (by rw [List.length_take]; omega), List.getD_eq_getElem?_getD, List.getElem?_eq_getElem (by omega)]; try rfl
theorem ext_len {s : ByteArray} {i k : Int} (h0 : 0 ≤ i) (hk : i ≤ k) (hs : k ≤ (s.size : Int)) : ((ls (s.extract i.toNat k.toNat)).length : Int) = k - i := by
  rw [ls_length, size_extract s (by omega)]; omega
theorem w_some {s : ByteArray} {i k col : Int} (h0 : 0 ≤ i) (hk : i < k) (hs : k ≤ (s.size : Int)) : wOf (ls (s.extract i.toNat k.toNat)) col = [(s.extract i.toNat k.toNat, col - (k - i))] := by
  have hl := ext_len h0 (Int.le_of_lt hk) hs
  unfold wOf
  rw [if_neg (fun e => by rw [e] at hl; simp at hl; omega), hl]
theorem sep_iff {s : ByteArray} {i : Nat} : ((ls s).getD i 0 = 32 ∨ (ls s).getD i 0 = 9) ↔ (byteAt s i = 32 ∨ byteAt s i = 9) := by
  rw [show ((ls s).getD i 0 = 32) ↔ byteAt s i = 32 from byte_is (k := 32) (by omega), show ((ls s).getD i 0 = 9) ↔ byteAt s i = 9 from byte_is (k := 9) (by omega)]
section
variable {s : ByteArray} {W : List Wd} {A : List ByteArray} {B : List Int} {i f col : Int}
/-- the state of 'split': no word is open, or one from f -/
def spQ (s : ByteArray) (W : List Wd) (A : List ByteArray) (B : List Int) (i f : Int) : Prop :=
  A.length = B.length ∧ W = List.zip A B ++ wF ((ls s).drop i.toNat) (if f < 0 then [] else ls (s.extract f.toNat i.toNat)) (i + 1)
theorem sp_first (s : ByteArray) : spQ s (wF (ls s) [] 1) [] [] 0 (-1) := ⟨rfl, rfl⟩
theorem sp_blank (h : spQ s W A B i f) (hf : f < 0) (h0 : 0 ≤ i) (hi : i < (s.size : Int)) (hb : byteAt s i.toNat = 32 ∨ byteAt s i.toNat = 9) : spQ s W A B (i + 1) (-1) := by
  refine ⟨h.1, ?_⟩
  rw [h.2, if_pos hf, if_pos (by decide), drop_at h0 hi, wF, if_pos (sep_iff.2 hb)]; rfl
theorem sp_open (h : spQ s W A B i f) (hf : f < 0) (h0 : 0 ≤ i) (hi : i < (s.size : Int)) (hb : byteAt s i.toNat ≠ 32) (hb2 : byteAt s i.toNat ≠ 9) : spQ s W A B (i + 1) i := by
  refine ⟨h.1, ?_⟩
  rw [h.2, if_pos hf, if_neg (by omega), drop_at h0 hi, wF, if_neg (fun e => (sep_iff.1 e).elim hb hb2), ext_step h0 (Int.le_refl i) hi, ext_self]
theorem sp_in (h : spQ s W A B i f) (hf : ¬ f < 0) (hfi : f ≤ i) (hi : i < (s.size : Int)) (hb : byteAt s i.toNat ≠ 32) (hb2 : byteAt s i.toNat ≠ 9) : spQ s W A B (i + 1) f := by
  refine ⟨h.1, ?_⟩
  rw [h.2, if_neg hf, if_neg hf, drop_at (by omega) hi, wF, if_neg (fun e => (sep_iff.1 e).elim hb hb2), ext_step (by omega) hfi hi]
theorem sp_out (h : spQ s W A B i f) (hf : ¬ f < 0) (hfi : f < i) (hi : i < (s.size : Int)) (hb : byteAt s i.toNat = 32 ∨ byteAt s i.toNat = 9) : spQ s W (A ++ [s.extract f.toNat i.toNat]) (B ++ [f + 1]) (i + 1) (-1) := by
  refine ⟨by rw [List.length_append, List.length_append, h.1]; rfl, ?_⟩
  rw [h.2, if_neg hf, if_pos (show (-1 : Int) < 0 by decide), drop_at (by omega) hi, wF, if_pos (sep_iff.2 hb), w_some (by omega) hfi (Int.le_of_lt hi), List.zip_append h.1, List.append_assoc]
  congr 2; show [_] = [_]; congr 2; omega
theorem sp_end (h : spQ s W A B i f) (hf : ¬ f < 0) (hfi : f < i) (hi : i = (s.size : Int)) : spQ s W (A ++ [s.extract f.toNat i.toNat]) (B ++ [f + 1]) (i + 1) (-1) := by
  refine ⟨by rw [List.length_append, List.length_append, h.1]; rfl, ?_⟩
  rw [h.2, if_neg hf, if_pos (show (-1 : Int) < 0 by decide), drop_end (by omega), drop_end (by omega), wF, wF, w_some (by omega) hfi (by omega), List.zip_append h.1, wOf_nil, List.append_nil]
  congr 1; show [_] = [_]; congr 2; omega
theorem sp_stop (h : spQ s W A B i f) (hf : f < 0) (hi : i = (s.size : Int)) : spQ s W A B (i + 1) (-1) := by
  refine ⟨h.1, ?_⟩
  rw [h.2, if_pos hf, if_pos (by decide), drop_end (by omega), drop_end (by omega)]; rfl
theorem sp_done (h : spQ s W A B i f) (hf : f < 0) (hi : (s.size : Int) ≤ i) : A = W.map Prod.fst ∧ B = W.map Prod.snd := by
  have e : W = List.zip A B := by rw [h.2, if_pos hf, drop_end hi]; show _ ++ [] = _; rw [List.append_nil]
  rw [e, List.map_fst_zip (Nat.le_of_eq h.1), List.map_snd_zip (Nat.le_of_eq h.1.symm)]; exact ⟨rfl, rfl⟩
end

end Go.Proofs.YthiklimfffhbaaaDoor

