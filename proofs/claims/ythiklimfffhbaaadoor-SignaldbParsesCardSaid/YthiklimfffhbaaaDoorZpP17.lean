/- Walks of functions of this seat, printed by a program over the engine. Conditions: as each theorem says. -/
import Derived.Test.YthiklimfffhbaaaDoorZpP16
namespace Go.Proofs.YthiklimfffhbaaaDoor
open Go.Eng Go.RowKit
set_option linter.unusedSimpArgs false
set_option linter.unusedVariables false
section
variable {W : List Tk} {el ec : Int} {r r' : Rs} {out out' : List Frm}
theorem ln_fr (h : eqT (nxT W r).gText WFr = true) (h1 : r' = lnF W el ec (nxS W el ec r)) (h2 : out'.map clF = out.map clF ++ [frR W el ec (nxS W el ec r)]) : lnQ W el ec r out r' out' := by unfold lnQ; rw [if_pos h]; exact ⟨h1, h2⟩
theorem ln_sg (h : eqT (nxT W r).gText WFr = false) (h2 : eqT (nxT W r).gText WSg = true) (ho : 0 < out.length) (h3 : r' = lnG W el ec (nxS W el ec r)) (h4 : out'.map clF = (out.map clF).dropLast ++ [addSg ((out.map clF).getD (out.length - 1) frm0) (sgR W el ec (nxS W el ec r))]) : lnQ W el ec r out r' out' := by
  unfold lnQ; rw [if_neg (by rw [h]; decide), if_pos (by rw [h2, decide_eq_true ho]; rfl)]; exact ⟨h3, h4⟩
theorem ln_no (h : eqT (nxT W r).gText WFr = false) (h2 : eqT (nxT W r).gText WSg = false ∨ out.length = 0) (h3 : r' = rfS (nxS W el ec r) (nxT W r)) : lnQ W el ec r out r' out := by
  unfold lnQ; rw [if_neg (by rw [h]; decide), if_neg (by rcases h2 with h2 | h2 <;> simp [h2])]; exact ⟨h3, rfl⟩
theorem fr_map (f : Frm) {g : Frm} (h : clF f = g) : (out ++ [f]).map clF = out.map clF ++ [g] := by rw [List.map_append, ← h]; rfl
theorem sg_map (ho : out.length ≠ 0) {x : Frm} {y : Sig} (hx : clF x = addSg (clF (out.getD ((out.length : Int) - 1).toNat frm0)) y) : (out.set ((out.length : Int) - 1).toNat x).map clF = (out.map clF).dropLast ++ [addSg ((out.map clF).getD (out.length - 1) frm0) y] := by
  rw [set_last ho, List.map_append, List.map_dropLast, getD_cl, show out.length - 1 = ((out.length : Int) - 1).toNat by omega, ← hx]; rfl
theorem cl_sig {f : Frm} (y : Sig) (a : Option Addr) (c : Nat) : clF ({ f with gSignals_a := a, gSignals_n := (f.gSignals_l ++ [y]).length, gSignals_c := c, gSignals_l := f.gSignals_l ++ [y] } : Frm) = addSg (clF f) y := by
  unfold clF addSg; simp
end
/-! the reference's pieces of the text -/
theorem split_at (c : UInt8) : ∀ (l : List UInt8) (n : Nat), n < l.length → (∀ k, k < n → l.getD k 0 ≠ c) → l.getD n 0 = c → splitOn c l = l.take n :: splitOn c (l.drop (n + 1))
  | [], n, h, _, _ => by simp at h
  | x :: l, 0, _, _, hc => by rw [splitOn, if_pos (by simpa using hc)]; rfl
  | x :: l, n + 1, h, hk, hc => by
    have hx : ¬ x = c := by simpa using hk 0 (by omega)
    have ih := split_at c l n (by simpa using h) (fun k hk' => by simpa using hk (k + 1) (by omega)) (by simpa using hc)
    rw [splitOn, if_neg hx, ih]; rfl
theorem split_all (c : UInt8) : ∀ (l : List UInt8), (∀ k, k < l.length → l.getD k 0 ≠ c) → splitOn c l = [l]
  | [], _ => rfl
  | x :: l, hk => by
    have hx : ¬ x = c := by simpa using hk 0 (by simp)
    have ih := split_all c l (fun k hk' => by simpa using hk (k + 1) (by simpa using hk'))
    rw [splitOn, if_neg hx, ih]
def pcs (s : ByteArray) (f : Int) : List (List UInt8) := if f ≤ (s.size : Int) then splitOn 10 ((ls s).drop f.toNat) else []
section
variable {s : ByteArray} {f i ln : Int} {R : PRes} {oc : List Frm}
theorem pcs_first (s : ByteArray) : pcs s 0 = splitOn 10 (ls s) := by unfold pcs; rw [if_pos (by omega)]; rfl
theorem pcs_end (h : (s.size : Int) < f) : pcs s f = [] := by unfold pcs; rw [if_neg (by omega)]
theorem pcs_cons (h0 : 0 ≤ f) (hf : f ≤ i) (hi : i ≤ (s.size : Int)) (hn : ∀ k, f ≤ k → k < i → byteAt s k.toNat ≠ 10) (hb : i < (s.size : Int) → byteAt s i.toNat = 10) : pcs s f = ls (s.extract f.toNat i.toNat) :: pcs s (i + 1) := by
  have hl := ls_length s
  have hg : ∀ k, ((ls s).drop f.toNat).getD k 0 = (ls s).getD (f.toNat + k) 0 := fun k => by rw [List.getD_eq_getElem?_getD, List.getElem?_drop, List.getD_eq_getElem?_getD]
  have ht : ls (s.extract f.toNat i.toNat) = ((ls s).drop f.toNat).take (i.toNat - f.toNat) := by rw [ls_extract, List.take_drop, show f.toNat + (i.toNat - f.toNat) = i.toNat by omega]
  have hk : ∀ k, k < i.toNat - f.toNat → ((ls s).drop f.toNat).getD k 0 ≠ 10 := fun k hk e => by
    rw [hg] at e
    have := hn ((f.toNat + k : Nat) : Int) (by omega) (by omega)
    exact this (by rw [Int.toNat_natCast]; exact (byte_is (k := 10) (by omega)).1 e)
  unfold pcs
  rw [if_pos (by omega), ht]
  by_cases he : i < (s.size : Int)
  · rw [if_pos (by omega), split_at 10 _ (i.toNat - f.toNat) (by rw [List.length_drop]; omega) hk (by rw [hg, show f.toNat + (i.toNat - f.toNat) = i.toNat by omega]; exact (byte_is (k := 10) (by omega)).2 (hb he)), List.drop_drop, show f.toNat + (i.toNat - f.toNat + 1) = (i + 1).toNat by omega]
  · rw [if_neg (by omega), split_all 10 _ (fun k h => hk k (by rw [List.length_drop] at h; omega)), List.take_of_length_le (by rw [List.length_drop]; omega)]
theorem rp_skip {x : ByteArray} {ps : List (List UInt8)} (hQ : R = parP (ls x :: ps) ln oc) {L : List Wd} (hL : L = wdsL (ls x)) (hl : L = []) : R = parP ps (ln + 1) oc := by rw [hQ, parP, if_pos (by rw [← hL]; exact hl)]
theorem rp_bad {x : ByteArray} {ps : List (List UInt8)} {r : Rs} (hQ : R = parP (ls x :: ps) ln oc) {L : List Wd} (hL : L = wdsL (ls x)) (hl : L ≠ []) {e : Int} (hx : e = (x.size : Int) + 1) (h : rend ln (lineE (!oc.isEmpty) L e) r) (he : ¬ r.e = 0) : R = ⟨[], r.pl, r.pc, r.e⟩ := by
  rcases h with ⟨h, _⟩ | ⟨_, h2, h3⟩
  · exact absurd h he
  · rw [hQ, parP, if_neg (by rw [← hL]; exact hl), ← hL, ls_length, ← hx, h3, h2]
theorem rp_ok {x : ByteArray} {ps : List (List UInt8)} {r : Rs} {oc' : List Frm} (hQ : R = parP (ls x :: ps) ln oc) {L : List Wd} (hL : L = wdsL (ls x)) (hl : L ≠ []) {e : Int} (hx : e = (x.size : Int) + 1) (h : rend ln (lineE (!oc.isEmpty) L e) r) (he : r.e = 0) (ho : lineE (!oc.isEmpty) L e = none → oc' = addL oc L) : R = parP ps (ln + 1) oc' := by
  rcases h with ⟨_, h⟩ | ⟨h, _, _⟩
  · rw [hQ, parP, if_neg (by rw [← hL]; exact hl), ← hL, ls_length, ← hx, h, ho h]
  · exact absurd he h
end
/-! claims with the frames' signals behind other claims -/
theorem clm_perm {w0 w : World} {A B : List Eng.Claim} (h : A.Perm B) (S : Sep w0 A w) : Sep w0 B w :=
  ⟨S.below, fun c hc => S.all c (h.mem_iff.2 hc), fun c hc => S.fresh c (h.mem_iff.2 hc), (h.pairwise_iff (fun h b hb hb2 => h b hb2 hb)).1 S.apart⟩
section
variable {w0 w : World} {A L0 : List Eng.Claim} {out : List Frm} {x : Frm}
theorem tk_snoc (A : List Eng.Claim) (S : Sep w0 (rowOf sigE x.gSignals_a x.gSignals_c 57 10 x.gSignals_l :: (A ++ (L0 ++ tlF out))) w) : Sep w0 (A ++ (L0 ++ tlF (out ++ [x]))) w := by
  rw [tlF_snoc]
  exact clm_perm (by rw [← List.append_assoc, ← List.append_assoc]; exact List.perm_middle.symm) S
theorem tk_last (A : List Eng.Claim) (h : out.length ≠ 0) (S : Sep w0 (A ++ (L0 ++ tlF out)) w) : Sep w0 (A ++ (rowOf sigE (out.getD ((out.length : Int) - 1).toNat frm0).gSignals_a (out.getD ((out.length : Int) - 1).toNat frm0).gSignals_c 57 10 (out.getD ((out.length : Int) - 1).toNat frm0).gSignals_l :: (L0 ++ tlF out.dropLast))) w := by
  rw [tlF_lastI h] at S
  exact clm_perm (List.Perm.append_left _ List.perm_middle) S
theorem tk_set (A : List Eng.Claim) (h : out.length ≠ 0) (S : Sep w0 (rowOf sigE x.gSignals_a x.gSignals_c 57 10 x.gSignals_l :: (A ++ (L0 ++ tlF out.dropLast))) w) : Sep w0 (A ++ (L0 ++ tlF (out.set ((out.length : Int) - 1).toNat x))) w := by
  rw [tlF_set h]
  exact clm_perm (by rw [← List.append_assoc, ← List.append_assoc]; exact List.perm_middle.symm) S
end
theorem ns_step {s : ByteArray} {f i : Int} (hn : ∀ k, f ≤ k → k < i → byteAt s k.toNat ≠ 10) (hb : byteAt s i.toNat ≠ 10) : ∀ k, f ≤ k → k < i + 1 → byteAt s k.toNat ≠ 10 := fun k h1 h2 => by
  by_cases h : k = i
  · rw [h]; exact hb
  · exact hn k h1 (by omega)

end Go.Proofs.YthiklimfffhbaaaDoor

