/- Walks of functions of this seat, printed by a program over the engine. Conditions: as each theorem says. -/
import Derived.Test.YthiklimfffhbaaaDoorZpP13
namespace Go.Proofs.YthiklimfffhbaaaDoor
open Go.Eng Go.RowKit
set_option linter.unusedSimpArgs false
set_option linter.unusedVariables false
structure Tk where
  gKind : Int
  gText : ByteArray
  gPlace_Line : Int
  gPlace_Column : Int
def tkE (x : Tk) : List Value := [iv x.gKind, .string x.gText, iv x.gPlace_Line, iv x.gPlace_Column]
/-! the reference's words of a line -/
abbrev tk0 : Tk := ⟨0, ByteArray.empty, 0, 0⟩
def tkW (ln : Int) (x : Wd) : Tk := ⟨0, x.1, ln, x.2⟩
theorem wOf_ls {x : ByteArray} {col : Int} (h : x.size ≠ 0) : wOf (ls x) col = [(x, col - (x.size : Int))] := by
  have hl := ls_length x
  unfold wOf
  rw [if_neg (fun e => by rw [e] at hl; simp at hl; omega), hl, show (⟨(ls x).toArray⟩ : ByteArray) = x from ls_inj (ls_mk _)]
theorem set_snoc {α : Type} (A : List α) (y z : α) : (A ++ [y]).set (((A ++ [y]).length : Int) - 1).toNat z = A ++ [z] := by
  have : (((A ++ [y]).length : Int) - 1).toNat = A.length := by simp
  rw [this, List.set_append_right _ _ (Nat.le_refl _), Nat.sub_self]; rfl
theorem getD_snoc {α : Type} (A : List α) (y d : α) : (A ++ [y]).getD (((A ++ [y]).length : Int) - 1).toNat d = y := by
  have : (((A ++ [y]).length : Int) - 1).toNat = A.length := by simp
  rw [this, List.getD_eq_getElem?_getD, List.getElem?_append_right (Nat.le_refl _), Nat.sub_self]; rfl
/-- the state of the reference's 'words': a word is open, or none -/
def rwQ (s : ByteArray) (ln : Int) (W : List Wd) (out : List Tk) (i : Int) (opn : Bool) : Prop :=
  if opn = true then ∃ A, ∃ x : Wd, out = A ++ [tkW ln x] ∧ x.1.size ≠ 0 ∧ x.2 + (x.1.size : Int) = i + 1 ∧ W.map (tkW ln) = A ++ (wF (beforeL 35 ((ls s).drop i.toNat)) (ls x.1) (i + 1)).map (tkW ln)
  else W.map (tkW ln) = out ++ (wF (beforeL 35 ((ls s).drop i.toNat)) [] (i + 1)).map (tkW ln)
theorem rw_first (s : ByteArray) (ln : Int) : rwQ s ln (wF (beforeL 35 (ls s)) [] 1) [] 0 false := by
  unfold rwQ; rw [if_neg (by decide)]; rfl
section
variable {s : ByteArray} {ln : Int} {W : List Wd} {out A : List Tk} {i : Int} {opn : Bool}
theorem rw_stop (h : rwQ s ln W out i opn) (h0 : 0 ≤ i) (hb : (s.size : Int) ≤ i ∨ (i < (s.size : Int) ∧ byteAt s i.toNat = 35)) : out = W.map (tkW ln) := by
  have e : beforeL 35 ((ls s).drop i.toNat) = [] := by
    rcases hb with hb | ⟨hi, hb⟩
    · rw [drop_end hb]; rfl
    · rw [drop_at h0 hi, before_cons, if_pos (show (ls s).getD i.toNat 0 = 35 from (byte_is (k := 35) (by omega)).2 hb)]
  unfold rwQ at h; rw [e] at h
  split at h
  · obtain ⟨A, x, rfl, hx, hc, hW⟩ := h
    rw [hW, wF, wOf_ls hx, show i + 1 - (x.1.size : Int) = x.2 by omega]; rfl
  · rw [h]; show _ = _ ++ []; rw [List.append_nil]
theorem rw_blank (h : rwQ s ln W out i opn) (h0 : 0 ≤ i) (hi : i < (s.size : Int)) (hn : byteAt s i.toNat ≠ 35) (hb : byteAt s i.toNat = 32 ∨ byteAt s i.toNat = 9) : rwQ s ln W out (i + 1) false := by
  have e : beforeL 35 ((ls s).drop i.toNat) = (ls s).getD i.toNat 0 :: beforeL 35 ((ls s).drop (i + 1).toNat) := by
    rw [drop_at h0 hi, before_cons, if_neg (fun e : (ls s).getD i.toNat 0 = 35 => hn ((byte_is (k := 35) (by omega)).1 e))]
  unfold rwQ at h ⊢; rw [e] at h; rw [if_neg (by decide)]
  split at h
  · obtain ⟨A, x, rfl, hx, hc, hW⟩ := h
    rw [hW, wF, if_pos (sep_iff.2 hb), wOf_ls hx, show i + 1 - (x.1.size : Int) = x.2 by omega, List.map_append, List.append_assoc]; rfl
  · rw [h, wF, if_pos (sep_iff.2 hb)]; rfl
theorem rw_core {t : ByteArray} {col : Int} (hc : col + (t.size : Int) = i + 1) (hW : W.map (tkW ln) = A ++ (wF (beforeL 35 ((ls s).drop i.toNat)) (ls t) (i + 1)).map (tkW ln)) (h0 : 0 ≤ i) (hi : i < (s.size : Int)) (hn : byteAt s i.toNat ≠ 35) (hb : byteAt s i.toNat ≠ 32) (hb2 : byteAt s i.toNat ≠ 9) :
    rwQ s ln W (A ++ [⟨0, t ++ s.extract i.toNat (i + 1).toNat, ln, col⟩]) (i + 1) true := by
  have e : beforeL 35 ((ls s).drop i.toNat) = (ls s).getD i.toNat 0 :: beforeL 35 ((ls s).drop (i + 1).toNat) := by
    rw [drop_at h0 hi, before_cons, if_neg (fun e : (ls s).getD i.toNat 0 = 35 => hn ((byte_is (k := 35) (by omega)).1 e))]
  have hz : (s.extract i.toNat (i + 1).toNat).size = 1 := by rw [size_extract s (by omega)]; omega
  unfold rwQ; rw [if_pos rfl]
  refine ⟨A, (t ++ s.extract i.toNat (i + 1).toNat, col), rfl, by rw [ByteArray.size_append]; omega, by show col + ((t ++ _ : ByteArray).size : Int) = _; rw [ByteArray.size_append]; omega, ?_⟩
  rw [hW, e, wF, if_neg (fun e => (sep_iff.1 e).elim hb hb2), ls_append, ext_step h0 (Int.le_refl i) hi, ext_self]; rfl
theorem rw_new (h : rwQ s ln W out i opn) (ho : opn = false) (h0 : 0 ≤ i) (hi : i < (s.size : Int)) (hn : byteAt s i.toNat ≠ 35) (hb : byteAt s i.toNat ≠ 32) (hb2 : byteAt s i.toNat ≠ 9) {y : Tk} (hy : y = ⟨0, ByteArray.empty, ln, i + 1⟩) :
    rwQ s ln W ((out ++ [y]).set (((out ++ [y]).length : Int) - 1).toNat { (out ++ [y]).getD (((out ++ [y]).length : Int) - 1).toNat tk0 with gText := ((out ++ [y]).getD (((out ++ [y]).length : Int) - 1).toNat tk0).gText ++ s.extract i.toNat (i + 1).toNat }) (i + 1) true := by
  rw [set_snoc, getD_snoc, hy]
  unfold rwQ at h; rw [if_neg (by rw [ho]; decide)] at h
  exact rw_core (t := ByteArray.empty) (by show i + 1 + ((0 : Nat) : Int) = _; omega) h h0 hi hn hb hb2
theorem rw_more (h : rwQ s ln W out i opn) (ho : opn = true) (h0 : 0 ≤ i) (hi : i < (s.size : Int)) (hn : byteAt s i.toNat ≠ 35) (hb : byteAt s i.toNat ≠ 32) (hb2 : byteAt s i.toNat ≠ 9) :
    rwQ s ln W (out.set ((out.length : Int) - 1).toNat { out.getD ((out.length : Int) - 1).toNat tk0 with gText := (out.getD ((out.length : Int) - 1).toNat tk0).gText ++ s.extract i.toNat (i + 1).toNat }) (i + 1) true := by
  unfold rwQ at h; rw [if_pos ho] at h
  obtain ⟨A, x, rfl, hx, hc, hW⟩ := h
  rw [set_snoc, getD_snoc]
  exact rw_core hc hW h0 hi hn hb hb2
theorem rw_some (h : rwQ s ln W out i opn) (ho : opn = true) : 0 < out.length := by
  unfold rwQ at h; rw [if_pos ho] at h
  obtain ⟨A, x, rfl, _⟩ := h; simp
end
section
variable {out : List Tk} {i : Int}
theorem ts_snoc (h : ∀ y ∈ out, (y.gText.size : Int) ≤ i) (h0 : 0 ≤ i) {y : Tk} (hy : y.gText = ByteArray.empty) : ∀ x ∈ out ++ [y], (x.gText.size : Int) ≤ i := fun z hz => by
  rcases List.mem_append.1 hz with hz | hz
  · exact h z hz
  · rw [List.mem_singleton.1 hz, hy]; exact h0
theorem ts_last (h : ∀ y ∈ out, (y.gText.size : Int) ≤ i) (h0 : 0 ≤ i) (k : Nat) : ((out.getD k tk0).gText.size : Int) ≤ i := by
  rw [List.getD_eq_getElem?_getD]
  cases hx : out[k]? with
  | none => exact h0
  | some x => exact h x (List.mem_of_getElem? hx)
theorem ts_set (h : ∀ y ∈ out, (y.gText.size : Int) ≤ i) (h0 : 0 ≤ i) (k : Nat) {e : ByteArray} (he : (e.size : Int) ≤ 1) : ∀ y ∈ out.set k { out.getD k tk0 with gText := (out.getD k tk0).gText ++ e }, (y.gText.size : Int) ≤ i + 1 := fun z hz => by
  rcases List.mem_or_eq_of_mem_set hz with hz | hz
  · have := h z hz; omega
  · rw [hz]; have := ts_last h h0 k; show (((out.getD k tk0).gText ++ e).size : Int) ≤ _; rw [ByteArray.size_append]; omega
end
/-! the reference's reader -/
structure Rs where
  j : Nat
  pl : Int
  pc : Int
  e : Int
def nxT (W : List Tk) (r : Rs) : Tk := if r.e = 0 then W.getD r.j tk0 else tk0
def nxS (W : List Tk) (el ec : Int) (r : Rs) : Rs := if r.e = 0 then (if r.j < W.length then ⟨r.j + 1, r.pl, r.pc, 0⟩ else ⟨r.j, el, ec, 4⟩) else r
def rfS (r : Rs) (t : Tk) : Rs := if r.e = 0 then ⟨r.j, t.gPlace_Line, t.gPlace_Column, 3⟩ else r
def nuS (W : List Tk) (el ec : Int) (r : Rs) : Rs := if numOk (nxT W r).gText then nxS W el ec r else rfS (nxS W el ec r) (nxT W r)
def nuV (W : List Tk) (r : Rs) : Int := if numOk (nxT W r).gText then parX (nxT W r).gText else 0
def eiS (W : List Tk) (el ec : Int) (a b : ByteArray) (r : Rs) : Rs := if eqT (nxT W r).gText a || eqT (nxT W r).gText b then nxS W el ec r else rfS (nxS W el ec r) (nxT W r)
def enS (W : List Tk) (r : Rs) : Rs := if r.e = 0 ∧ r.j < W.length then rfS r (W.getD r.j tk0) else r
def subP (a : Option Addr) (c j : Nat) (p : Option Addr) : Prop := j < c → p = subA a c j 4
theorem subP_zero (a : Option Addr) (c : Nat) : subP a c 0 a := fun _ => (subA_zero a c 4).symm
theorem subP_next {a p : Option Addr} {c j : Nat} (h : subP a c j p) : subP a c (j + 1) (subA p (c - j) 1 4) := by
  intro hj
  rw [h (by omega)]
  unfold subA
  rw [if_neg (by omega), if_neg (by omega), if_neg (by omega)]
  cases a with
  | none => rfl
  | some q => show some ((q.add (j * 4)).add (1 * 4)) = some (q.add ((j + 1) * 4)); rw [addr_add_add]; congr 2; omega

def stS (W : List Tk) (el ec : Int) (ok : ByteArray → Bool) (r : Rs) : Rs := if ok (nxT W r).gText then nxS W el ec r else rfS (nxS W el ec r) (nxT W r)
theorem nu_st (W : List Tk) (el ec : Int) (r : Rs) : nuS W el ec r = stS W el ec numOk r := rfl
theorem ei_st (W : List Tk) (el ec : Int) (a b : ByteArray) (r : Rs) : eiS W el ec a b r = stS W el ec (fun t => eqT t a || eqT t b) r := rfl
theorem nx_st (W : List Tk) (el ec : Int) (r : Rs) : nxS W el ec r = stS W el ec (fun _ => true) r := by unfold stS; rw [if_pos rfl]
def guS (W : List Tk) (el ec : Int) (r : Rs) : Rs := if r.e = 0 ∧ r.j < W.length then eiS W el ec WGd WGd r else r
def guV (W : List Tk) (r : Rs) : Bool := if r.e = 0 ∧ r.j < W.length then eqT (nxT W r).gText WGd else false
/-- the reader before the rest 'ks' of a line, at word k; or it has met the error R -/
def rq (L : List Wd) (ln e : Int) (R : Option (Int × Int)) (ks : List Nat) (opt k : Nat) (r : Rs) : Prop :=
  (r.e = 0 ∧ r.j = k ∧ R = rdS ks opt (L.drop k) e) ∨ (r.e ≠ 0 ∧ r.pl = ln ∧ R = some (r.pc, r.e))
section
variable {L : List Wd} {ln e : Int} {R : Option (Int × Int)} {ks : List Nat} {opt k n : Nat} {r : Rs}
theorem tk_at (L : List Wd) (ln : Int) (k : Nat) (h : k < L.length) : (L.map (tkW ln)).getD k tk0 = tkW ln (L.getD k wd0) := by
  rw [List.getD_eq_getElem?_getD, List.getElem?_map, List.getD_eq_getElem?_getD, List.getElem?_eq_getElem h]; rfl
theorem tk_text (L : List Wd) (ln : Int) (k : Nat) : ((L.map (tkW ln)).getD k tk0).gText = wAt L k := by
  by_cases h : k < L.length
  · rw [tk_at L ln k h]; rfl
  · show _ = (L.getD k wd0).1
    rw [List.getD_eq_getElem?_getD, List.getD_eq_getElem?_getD, List.getElem?_eq_none (by rw [List.length_map]; omega), List.getElem?_eq_none (by omega)]; rfl
theorem rq_step (h : rq L ln e R (n :: ks) opt k r) (hq : opt ≤ ks.length) {ok : ByteArray → Bool} (ho : ∀ t, ok t = okW n t) : rq L ln e R ks opt (k + 1) (stS (L.map (tkW ln)) ln e ok r) := by
  rcases h with ⟨he, hj, hR⟩ | ⟨he, hl, hR⟩
  · simp only [stS, nxT, nxS, if_pos he, tk_text, List.length_map]
    by_cases hk : k < L.length
    · rw [if_pos (show r.j < L.length by omega)]
      by_cases h1 : ok (wAt L r.j) = true
      · rw [if_pos h1]; rw [hj] at h1
        exact .inl ⟨rfl, by rw [← hj], rd_ok hR hk (by rw [← ho]; exact h1)⟩
      · rw [if_neg h1]; rw [hj] at h1
        unfold rfS; rw [if_pos rfl, hj, tk_at L ln k hk]
        exact .inr ⟨show (3 : Int) ≠ 0 by decide, rfl, rd_bad hR hk (by rw [← ho]; exact Bool.eq_false_iff.2 h1)⟩
    · rw [if_neg (show ¬ r.j < L.length by omega)]
      have e4 : rfS ⟨r.j, ln, e, 4⟩ ((L.map (tkW ln)).getD r.j tk0) = ⟨r.j, ln, e, 4⟩ := by unfold rfS; rw [if_neg (show ¬ (4 : Int) = 0 by decide)]
      rw [e4, ite_self]
      exact .inr ⟨show (4 : Int) ≠ 0 by decide, rfl, rd_few hR (by omega) (by simp; omega)⟩
  · have e1 : nxS (L.map (tkW ln)) ln e r = r := by unfold nxS; rw [if_neg he]
    have e2 : ∀ t, rfS r t = r := fun t => by unfold rfS; rw [if_neg he]
    unfold stS; rw [e1, e2, ite_self]
    exact .inr ⟨he, hl, hR⟩
theorem rq_none (h : rq L ln e R ks opt k r) (hR : R = none) : r.e = 0 ∧ r.j = k := by
  rcases h with ⟨h1, h2, _⟩ | ⟨_, _, h⟩
  · exact ⟨h1, h2⟩
  · rw [hR] at h; cases h
theorem rq_text (h : rq L ln e R ks opt k r) (hR : R = none) : (nxT (L.map (tkW ln)) r).gText = wAt L k := by
  obtain ⟨h1, h2⟩ := rq_none h hR
  unfold nxT; rw [if_pos h1, h2, tk_text]
theorem rq_num (h : rq L ln e R (1 :: ks) opt k r) (hR : R = none) (hq : opt ≤ ks.length) : nuV (L.map (tkW ln)) r = parX (wAt L k) := by
  unfold nuV; rw [rq_text h hR]
  rcases h with ⟨_, _, h3⟩ | ⟨_, _, h⟩
  · by_cases hk : k < L.length
    · by_cases ho : numOk (wAt L k) = true
      · rw [if_pos ho]
      · have := rd_bad h3 hk (Bool.eq_false_iff.2 ho); rw [hR] at this; cases this
    · have := rd_few h3 (by omega) (by simp; omega); rw [hR] at this; cases this
  · rw [hR] at h; cases h
theorem rq_guard (h : rq L ln e R [2] 1 k r) : ∃ k', rq L ln e R [] 1 k' (guS (L.map (tkW ln)) ln e r) := by
  unfold guS
  by_cases hc : r.e = 0 ∧ r.j < (L.map (tkW ln)).length
  · rw [if_pos hc, ei_st]
    rcases h with ⟨h1, h2, h3⟩ | ⟨h1, _⟩
    · rw [List.length_map] at hc
      refine ⟨k + 1, ?_⟩
      simp only [stS, nxT, nxS, if_pos hc.1, tk_text, List.length_map, if_pos hc.2]
      by_cases h4 : eqT (wAt L r.j) WGd = true
      · rw [if_pos (by rw [h4]; rfl)]; rw [h2] at h4
        exact .inl ⟨rfl, by rw [← h2], rd_ok h3 (by omega) h4⟩
      · rw [if_neg (by rw [Bool.eq_false_iff.2 h4]; decide)]; rw [h2] at h4
        unfold rfS; rw [if_pos rfl, h2, tk_at L ln k (by omega)]
        exact .inr ⟨show (3 : Int) ≠ 0 by decide, rfl, rd_bad h3 (by omega) (Bool.eq_false_iff.2 h4)⟩
    · exact absurd hc.1 h1
  · rw [if_neg hc]
    rcases h with ⟨h1, h2, h3⟩ | h
    · have : ¬ r.j < L.length := fun h => hc ⟨h1, by rw [List.length_map]; exact h⟩
      refine ⟨k, .inl ⟨h1, h2, ?_⟩⟩
      rw [rd_end h3 (by omega) (by decide), List.drop_eq_nil_of_le (by omega)]; rfl
    · exact ⟨k, .inr h⟩
theorem rq_gval (h : rq L ln e R [2] 1 k r) (hR : R = none) : guV (L.map (tkW ln)) r = decide (k < L.length) := by
  obtain ⟨h1, h2⟩ := rq_none h hR
  unfold guV; rw [rq_text h hR, List.length_map]
  by_cases hk : k < L.length
  · rw [if_pos ⟨h1, by omega⟩, decide_eq_true hk]
    rcases h with ⟨_, _, h3⟩ | ⟨_, _, h⟩
    · by_cases ho : eqT (wAt L k) WGd = true
      · exact ho
      · have := rd_bad h3 hk (Bool.eq_false_iff.2 ho); rw [hR] at this; cases this
    · rw [hR] at h; cases h
  · rw [if_neg (fun c => by omega), decide_eq_false hk]
/-- the reader at the end of a line -/
def rend (ln : Int) (R : Option (Int × Int)) (r : Rs) : Prop := (r.e = 0 ∧ R = none) ∨ (r.e ≠ 0 ∧ r.pl = ln ∧ R = some (r.pc, r.e))
theorem rq_end (h : rq L ln e R [] opt k r) : rend ln R (enS (L.map (tkW ln)) r) := by
  unfold enS
  rcases h with ⟨h1, h2, h3⟩ | ⟨h1, h2, h3⟩
  · by_cases hk : k < L.length
    · rw [if_pos ⟨h1, by rw [List.length_map]; omega⟩]
      unfold rfS; rw [if_pos h1, h2, tk_at L ln k hk]
      exact .inr ⟨show (3 : Int) ≠ 0 by decide, rfl, rd_more h3 hk⟩
    · rw [if_neg (fun c => by rw [List.length_map] at c; omega)]
      exact .inl ⟨h1, rd_end h3 (by omega) (Nat.zero_le _)⟩
  · rw [if_neg (fun c => h1 c.1)]; exact .inr ⟨h1, h2, h3⟩
end
/-! a line, by the reader -/
def rs0 : Rs := ⟨0, 0, 0, 0⟩
section
variable (W : List Tk) (el ec : Int) (r : Rs)
def lnF : Rs := enS W (guS W el ec (nuS W el ec (nuS W el ec (nxS W el ec r))))
def frR : Frm := ⟨(nxT W r).gText, nuV W (nxS W el ec r), nuV W (nuS W el ec (nxS W el ec r)), guV W (nuS W el ec (nuS W el ec (nxS W el ec r))), none, 0, 0, []⟩
abbrev g1 : Rs := nxS W el ec r
abbrev g2 : Rs := nuS W el ec (g1 W el ec r)
abbrev g3 : Rs := nuS W el ec (g2 W el ec r)
abbrev g4 : Rs := eiS W el ec WIn WMo (g3 W el ec r)
abbrev g5 : Rs := eiS W el ec WUn WSi (g4 W el ec r)
abbrev g6 : Rs := nuS W el ec (g5 W el ec r)
abbrev g7 : Rs := nuS W el ec (g6 W el ec r)
abbrev g8 : Rs := nuS W el ec (g7 W el ec r)
abbrev g9 : Rs := nuS W el ec (g8 W el ec r)
abbrev g10 : Rs := nuS W el ec (g9 W el ec r)
def lnG : Rs := enS W (g10 W el ec r)
def sgR : Sig := ⟨(nxT W r).gText, nuV W (g1 W el ec r), nuV W (g2 W el ec r), eqT (nxT W (g3 W el ec r)).gText WMo, eqT (nxT W (g4 W el ec r)).gText WSi, nuV W (g5 W el ec r), nuV W (g6 W el ec r), nuV W (g7 W el ec r), nuV W (g8 W el ec r), nuV W (g9 W el ec r)⟩
/-- what the reference's 'line' makes of the reader and of the frames -/
def lnQ (out : List Frm) (r' : Rs) (out' : List Frm) : Prop :=
  if eqT (nxT W r).gText WFr then r' = lnF W el ec (nxS W el ec r) ∧ out'.map clF = out.map clF ++ [frR W el ec (nxS W el ec r)]
  else if eqT (nxT W r).gText WSg && decide (0 < out.length) then r' = lnG W el ec (nxS W el ec r) ∧ out'.map clF = (out.map clF).dropLast ++ [addSg ((out.map clF).getD (out.length - 1) frm0) (sgR W el ec (nxS W el ec r))]
  else r' = rfS (nxS W el ec r) (nxT W r) ∧ out' = out
end
section
variable {L : List Wd} {ln e : Int} {out out' : List Frm} {r' : Rs}
theorem rq_frame {r : Rs} {R : Option (Int × Int)} (h : rq L ln e R ksF 1 1 r) : rend ln R (lnF (L.map (tkW ln)) ln e r) ∧ (R = none → frR (L.map (tkW ln)) ln e r = frmL L) := by
  have h1 : rq L ln e R [1, 1, 2] 1 2 (nxS (L.map (tkW ln)) ln e r) := by rw [nx_st]; exact rq_step h (by decide) (fun t => rfl)
  have h2 : rq L ln e R [1, 2] 1 3 (nuS (L.map (tkW ln)) ln e (nxS (L.map (tkW ln)) ln e r)) := by rw [nu_st]; exact rq_step h1 (by decide) (fun t => rfl)
  have h3 : rq L ln e R [2] 1 4 (nuS (L.map (tkW ln)) ln e (nuS (L.map (tkW ln)) ln e (nxS (L.map (tkW ln)) ln e r))) := by rw [nu_st]; exact rq_step h2 (by decide) (fun t => rfl)
  obtain ⟨k', h4⟩ := rq_guard h3
  refine ⟨rq_end h4, fun hR => ?_⟩
  unfold frR frmL
  rw [rq_text h hR, rq_num h1 hR (by decide), rq_num h2 hR (by decide), rq_gval h3 hR]
theorem rq_signal {r : Rs} {R : Option (Int × Int)} (h : rq L ln e R ksS 0 1 r) : rend ln R (lnG (L.map (tkW ln)) ln e r) ∧ (R = none → sgR (L.map (tkW ln)) ln e r = sigL L) := by
  have c3 : ∀ t, (eqT t WIn || eqT t WMo) = okW 3 t := fun t => Bool.or_comm _ _
  have c4 : ∀ t, (eqT t WUn || eqT t WSi) = okW 4 t := fun t => Bool.or_comm _ _
  have h1 : rq L ln e R [1, 1, 3, 4, 1, 1, 1, 1, 1] 0 2 (g1 (L.map (tkW ln)) ln e r) := by rw [g1, nx_st]; exact rq_step h (by decide) (fun t => rfl)
  have h2 : rq L ln e R [1, 3, 4, 1, 1, 1, 1, 1] 0 3 (g2 (L.map (tkW ln)) ln e r) := by rw [g2, nu_st]; exact rq_step h1 (by decide) (fun t => rfl)
  have h3 : rq L ln e R [3, 4, 1, 1, 1, 1, 1] 0 4 (g3 (L.map (tkW ln)) ln e r) := by rw [g3, nu_st]; exact rq_step h2 (by decide) (fun t => rfl)
  have h4 : rq L ln e R [4, 1, 1, 1, 1, 1] 0 5 (g4 (L.map (tkW ln)) ln e r) := by rw [g4, ei_st]; exact rq_step h3 (by decide) c3
  have h5 : rq L ln e R [1, 1, 1, 1, 1] 0 6 (g5 (L.map (tkW ln)) ln e r) := by rw [g5, ei_st]; exact rq_step h4 (by decide) c4
  have h6 : rq L ln e R [1, 1, 1, 1] 0 7 (g6 (L.map (tkW ln)) ln e r) := by rw [g6, nu_st]; exact rq_step h5 (by decide) (fun t => rfl)
  have h7 : rq L ln e R [1, 1, 1] 0 8 (g7 (L.map (tkW ln)) ln e r) := by rw [g7, nu_st]; exact rq_step h6 (by decide) (fun t => rfl)
  have h8 : rq L ln e R [1, 1] 0 9 (g8 (L.map (tkW ln)) ln e r) := by rw [g8, nu_st]; exact rq_step h7 (by decide) (fun t => rfl)
  have h9 : rq L ln e R [1] 0 10 (g9 (L.map (tkW ln)) ln e r) := by rw [g9, nu_st]; exact rq_step h8 (by decide) (fun t => rfl)
  have h10 : rq L ln e R [] 0 11 (g10 (L.map (tkW ln)) ln e r) := by rw [g10, nu_st]; exact rq_step h9 (by decide) (fun t => rfl)
  refine ⟨rq_end h10, fun hR => ?_⟩
  unfold sgR sigL
  rw [rq_text h hR, rq_num h1 hR (by decide), rq_num h2 hR (by decide), rq_text h3 hR, rq_text h4 hR, rq_num h5 hR (by decide), rq_num h6 hR (by decide), rq_num h7 hR (by decide), rq_num h8 hR (by decide), rq_num h9 hR (by decide)]
theorem ln_line (hq : lnQ (L.map (tkW ln)) ln e rs0 out r' out') (hL : L ≠ []) : rend ln (lineE (!(out.map clF).isEmpty) L e) r' ∧ (lineE (!(out.map clF).isEmpty) L e = none → out'.map clF = addL (out.map clF) L) := by
  have hl : 0 < L.length := List.length_pos_iff.2 hL
  have et : (nxT (L.map (tkW ln)) rs0).gText = wAt L 0 := by unfold nxT; rw [if_pos (show rs0.e = 0 from rfl)]; exact tk_text L ln 0
  have e1 : nxS (L.map (tkW ln)) ln e rs0 = ⟨1, 0, 0, 0⟩ := by unfold nxS; rw [if_pos (show rs0.e = 0 from rfl), if_pos (by rw [List.length_map]; exact hl)]; rfl
  have eo : (!(out.map clF).isEmpty) = decide (0 < out.length) := by cases out <;> rfl
  unfold lnQ at hq; rw [et, e1] at hq
  unfold lineE addL; rw [eo]
  by_cases h1 : eqT (wAt L 0) WFr = true
  · rw [if_pos h1] at hq; rw [if_pos h1, if_pos h1]
    obtain ⟨h2, h3⟩ := rq_frame (L := L) (ln := ln) (e := e) (R := rdS ksF 1 (L.drop 1) e) (r := ⟨1, 0, 0, 0⟩) (.inl ⟨rfl, rfl, rfl⟩)
    exact ⟨by rw [hq.1]; exact h2, fun hn => by rw [hq.2, h3 hn]⟩
  · rw [if_neg h1] at hq; rw [if_neg h1, if_neg h1]
    by_cases h2 : (eqT (wAt L 0) WSg && decide (0 < out.length)) = true
    · rw [if_pos h2] at hq; rw [if_pos h2]
      obtain ⟨h3, h4⟩ := rq_signal (L := L) (ln := ln) (e := e) (R := rdS ksS 0 (L.drop 1) e) (r := ⟨1, 0, 0, 0⟩) (.inl ⟨rfl, rfl, rfl⟩)
      exact ⟨by rw [hq.1]; exact h3, fun hn => by rw [hq.2, h4 hn, List.length_map]⟩
    · rw [if_neg h2] at hq; rw [if_neg h2]
      refine ⟨?_, fun hn => by cases hn⟩
      rw [hq.1]
      have e2 : nxT (L.map (tkW ln)) rs0 = tkW ln (L.getD 0 wd0) := by unfold nxT; rw [if_pos (show rs0.e = 0 from rfl)]; exact tk_at L ln 0 hl
      rw [e2]; unfold rfS; rw [if_pos rfl]
      exact .inr ⟨show (3 : Int) ≠ 0 by decide, rfl, rfl⟩
end

theorem flat_drop {α : Type} {g : α → List Value} {z : Nat} (hs : ∀ x, (g x).length = z) : ∀ (l : List α) (j : Nat), (l.drop j).flatMap g = (l.flatMap g).drop (j * z)
  | l, 0 => by rw [Nat.zero_mul]; rfl
  | [], j + 1 => by rw [List.drop_nil]; simp
  | x :: l, j + 1 => by
    have h1 : (g x).drop (j * z + z) = [] := List.drop_eq_nil_of_le (by rw [hs x]; exact Nat.le_add_left _ _)
    rw [List.drop_succ_cons, flat_drop hs l j, List.flatMap_cons, Nat.succ_mul, List.drop_append, hs x, h1, Nat.add_sub_cancel]; rfl
theorem sub_recs {g : Tk → List Value} {w : World} {a p : Option Addr} {c j : Nat} {e : TypeId} {W : List Tk} (h : (rowOf g a c e 4 W).holds w) (hs : ∀ x, (g x).length = 4) (hp : subP a c j p) (hj : j < W.length) : Recs g 4 w p (W.length - j) (W.drop j) := by
  have hr := rowOf_recs h _ rfl hs (by decide)
  have hc := (rowOf_cells h).2.2
  have e := hp (by omega)
  refine ⟨by rw [List.length_drop], hs, by decide, fun i v hi => ?_⟩
  rw [flat_drop hs, List.getElem?_drop] at hi
  obtain ⟨q, hq, hcell⟩ := hr.cells _ _ hi
  rw [e]; unfold subA; rw [if_neg (by omega), hq]
  exact ⟨_, rfl, by rw [addr_add_add]; exact hcell⟩
section
variable {W : List Tk} {el ec : Int} {r : Rs} {a p : Option Addr} {c : Nat}
theorem nx_ne (h : ¬ r.e = 0) : nxS W el ec r = r := by unfold nxS; rw [if_neg h]
theorem nt_ne (h : ¬ r.e = 0) : nxT W r = tk0 := by unfold nxT; rw [if_neg h]
theorem nx_end (h : r.e = 0) (hj : ¬ r.j < W.length) : nxS W el ec r = ⟨r.j, el, ec, 4⟩ := by unfold nxS; rw [if_pos h, if_neg hj]
theorem nt_end (h : r.e = 0) (hj : ¬ r.j < W.length) : nxT W r = tk0 := by unfold nxT; rw [if_pos h, List.getD_eq_getElem?_getD, List.getElem?_eq_none (by omega)]; rfl
theorem nx_get (h : r.e = 0) (hj : r.j < W.length) : nxS W el ec r = ⟨r.j + 1, r.pl, r.pc, 0⟩ := by unfold nxS; rw [if_pos h, if_pos hj]
theorem nt_get (h : r.e = 0) : nxT W r = (W.drop r.j).getD 0 tk0 := by unfold nxT; rw [if_pos h, List.getD_eq_getElem?_getD, List.getD_eq_getElem?_getD, List.getElem?_drop]; rfl
theorem dr_get (W : List Tk) (r : Rs) : (W.drop r.j).getD 0 tk0 = W.getD r.j tk0 := by rw [List.getD_eq_getElem?_getD, List.getD_eq_getElem?_getD, List.getElem?_drop]; rfl
theorem nt_size (h : ∀ k, (W.getD k tk0).gText.size ≤ 1000000) : (nxT W r).gText.size ≤ 1000000 := by
  unfold nxT; split
  · exact h _
  · exact Nat.zero_le _
theorem rf_j (r : Rs) (t : Tk) : (rfS r t).j = r.j := by unfold rfS; split <;> rfl
theorem rf_ne {r : Rs} {t : Tk} (h : ¬ r.e = 0) : rfS r t = r := by unfold rfS; rw [if_neg h]
theorem rf_eq {r : Rs} {t : Tk} (h : r.e = 0) : rfS r t = ⟨r.j, t.gPlace_Line, t.gPlace_Column, 3⟩ := by unfold rfS; rw [if_pos h]
theorem nu_ok (h : numOk (nxT W r).gText = true) : nuS W el ec r = nxS W el ec r ∧ nuV W r = parX (nxT W r).gText := by unfold nuS nuV; rw [if_pos h, if_pos h]; exact ⟨rfl, rfl⟩
theorem nu_no (h : numOk (nxT W r).gText = false) : nuS W el ec r = rfS (nxS W el ec r) (nxT W r) ∧ nuV W r = 0 := by unfold nuS nuV; rw [if_neg (by rw [h]; decide), if_neg (by rw [h]; decide)]; exact ⟨rfl, rfl⟩
theorem ei_ok {x y : ByteArray} (h : (eqT (nxT W r).gText x || eqT (nxT W r).gText y) = true) : eiS W el ec x y r = nxS W el ec r := by unfold eiS; rw [if_pos h]
theorem ei_no {x y : ByteArray} (h : (eqT (nxT W r).gText x || eqT (nxT W r).gText y) = false) : eiS W el ec x y r = rfS (nxS W el ec r) (nxT W r) := by unfold eiS; rw [if_neg (by rw [h]; decide)]
theorem en_yes (h : r.e = 0) (hj : r.j < W.length) : enS W r = rfS r (W.getD r.j tk0) := by unfold enS; rw [if_pos ⟨h, hj⟩]
theorem en_no (h : ¬ (r.e = 0 ∧ r.j < W.length)) : enS W r = r := by unfold enS; rw [if_neg h]
theorem gu_yes (h : r.e = 0) (hj : r.j < W.length) : guS W el ec r = eiS W el ec WGd WGd r ∧ guV W r = eqT (nxT W r).gText WGd := by unfold guS guV; rw [if_pos ⟨h, hj⟩, if_pos ⟨h, hj⟩]; exact ⟨rfl, rfl⟩
theorem gu_no (h : ¬ (r.e = 0 ∧ r.j < W.length)) : guS W el ec r = r ∧ guV W r = false := by unfold guS guV; rw [if_neg h, if_neg h]; exact ⟨rfl, rfl⟩
theorem nuV_px (W : List Tk) (r : Rs) : -9223372036854775808 ≤ nuV W r ∧ nuV W r ≤ 9223372036854775807 := by
  unfold nuV; split
  · exact px _
  · omega
end

end Go.Proofs.YthiklimfffhbaaaDoor

