/- Walks of functions of this seat, printed by a program over the engine. Conditions: as each theorem says. -/
import Derived.Test.YthiklimfffhbaaaDoorZlP10
namespace Go.Proofs.YthiklimfffhbaaaDoor
open Go.Eng Go.RowKit
set_option linter.unusedSimpArgs false
set_option linter.unusedVariables false
/-! a line's words against what must stand there -/
def WFr : ByteArray := ⟨#[102, 114, 97, 109, 101]⟩
def WSg : ByteArray := ⟨#[115, 105, 103, 110, 97, 108]⟩
def WGd : ByteArray := ⟨#[103, 117, 97, 114, 100, 101, 100]⟩
def WMo : ByteArray := ⟨#[109, 111, 116, 111, 114, 111, 108, 97]⟩
def WIn : ByteArray := ⟨#[105, 110, 116, 101, 108]⟩
def WSi : ByteArray := ⟨#[115, 105, 103, 110, 101, 100]⟩
def WUn : ByteArray := ⟨#[117, 110, 115, 105, 103, 110, 101, 100]⟩
def numOk (t : ByteArray) : Bool := decide (parE t = 0) && inB (parX t) (-1099511627776) 1099511627776
/-- what a word must be: 0 any, 1 a number, 2 'guarded', 3 and 4 one of two -/
def okW (k : Nat) (t : ByteArray) : Bool := match k with
  | 0 => true
  | 1 => numOk t
  | 2 => eqT t WGd
  | 3 => eqT t WMo || eqT t WIn
  | _ => eqT t WSi || eqT t WUn
def rdS : List Nat → Nat → List Wd → Int → Option (Int × Int)
  | [], _, [], _ => none
  | [], _, x :: _, _ => some (x.2, 3)
  | _ :: ks, opt, [], e => if ks.length + 1 ≤ opt then none else some (e, 4)
  | k :: ks, opt, x :: L, e => if okW k x.1 then rdS ks opt L e else some (x.2, 3)
def ksF : List Nat := [0, 1, 1, 2]
def ksS : List Nat := [0, 1, 1, 3, 4, 1, 1, 1, 1, 1]
abbrev wAt (L : List Wd) (k : Nat) : ByteArray := (L.getD k wd0).1
/-- the first error of a line: column, number -/
def lineE (some_ : Bool) (L : List Wd) (e : Int) : Option (Int × Int) :=
  if eqT (wAt L 0) WFr then rdS ksF 1 (L.drop 1) e
  else if eqT (wAt L 0) WSg && some_ then rdS ksS 0 (L.drop 1) e
  else some ((L.getD 0 wd0).2, 3)
section
variable {R : Option (Int × Int)} {k opt j : Nat} {ks : List Nat} {L : List Wd} {e : Int}
theorem drop_w (hj : j < L.length) : L.drop j = L.getD j wd0 :: L.drop (j + 1) := by
  rw [List.getD_eq_getElem?_getD, List.getElem?_eq_getElem hj]; exact List.drop_eq_getElem_cons hj
theorem rd_ok (h : R = rdS (k :: ks) opt (L.drop j) e) (hj : j < L.length) (ok : okW k (wAt L j) = true) : R = rdS ks opt (L.drop (j + 1)) e := by
  rw [h, drop_w hj, rdS, if_pos ok]
theorem rd_bad (h : R = rdS (k :: ks) opt (L.drop j) e) (hj : j < L.length) (ok : okW k (wAt L j) = false) : R = some ((L.getD j wd0).2, 3) := by
  rw [h, drop_w hj, rdS, if_neg (by rw [ok]; decide)]
theorem rd_more (h : R = rdS [] opt (L.drop j) e) (hj : j < L.length) : R = some ((L.getD j wd0).2, 3) := by
  rw [h, drop_w hj]; rfl
theorem rd_end (h : R = rdS ks opt (L.drop j) e) (hj : L.length ≤ j) (ho : ks.length ≤ opt) : R = none := by
  rw [h, List.drop_eq_nil_of_le hj]; cases ks with
  | nil => rfl
  | cons k ks => rw [rdS, if_pos (by simpa using ho)]
theorem rd_few (h : R = rdS ks opt (L.drop j) e) (hj : L.length ≤ j) (ho : ¬ ks.length ≤ opt) : R = some (e, 4) := by
  rw [h, List.drop_eq_nil_of_le hj]; cases ks with
  | nil => exact absurd (Nat.zero_le _) ho
  | cons k ks => rw [rdS, if_neg (by simpa using ho)]
end
/-! a line's values -/
def frmL (L : List Wd) : Frm := ⟨wAt L 1, parX (wAt L 2), parX (wAt L 3), decide (4 < L.length), none, 0, 0, []⟩
def sigL (L : List Wd) : Sig := ⟨wAt L 1, parX (wAt L 2), parX (wAt L 3), eqT (wAt L 4) WMo, eqT (wAt L 5) WSi, parX (wAt L 6), parX (wAt L 7), parX (wAt L 8), parX (wAt L 9), parX (wAt L 10)⟩
/-- a frame without its addresses -/
def clF (f : Frm) : Frm := { f with gSignals_a := none, gSignals_n := f.gSignals_l.length, gSignals_c := 0 }
def addSg (f : Frm) (x : Sig) : Frm := { f with gSignals_a := none, gSignals_n := f.gSignals_l.length + 1, gSignals_c := 0, gSignals_l := f.gSignals_l ++ [x] }
def addL (out : List Frm) (L : List Wd) : List Frm :=
  if eqT (wAt L 0) WFr then out ++ [frmL L] else out.dropLast ++ [addSg (out.getD (out.length - 1) frm0) (sigL L)]
structure PRes where
  l : List Frm
  pl : Int
  pc : Int
  e : Int
def dbOf (l : List Frm) : Db := ⟨none, l.length, 0, l⟩
def finP (out : List Frm) : PRes := if (faultF (dbOf out)).2 = 0 then ⟨out, 0, 0, 0⟩ else ⟨[], 0, 0, (faultF (dbOf out)).2⟩
def wdsL (p : List UInt8) : List Wd := wF (beforeL 35 p) [] 1
def parP : List (List UInt8) → Int → List Frm → PRes
  | [], _, out => finP out
  | p :: ps, ln, out =>
    if wdsL p = [] then parP ps (ln + 1) out else
    match lineE (!out.isEmpty) (wdsL p) ((p.length : Int) + 1) with
    | some x => ⟨[], ln, x.1, x.2⟩
    | none => parP ps (ln + 1) (addL out (wdsL p))
def parsF (s : ByteArray) : PRes := if 16384 < s.size then ⟨[], 0, 0, 5⟩ else parP (splitOn 10 (ls s)) 1 []
section
variable {s : ByteArray} {ps : List (List UInt8)} {i : Int} {R : PRes} {out : List Frm}
theorem pp_at (h : R = parP (ps.drop i.toNat) (i + 1) out) (h0 : 0 ≤ i) (hi : i < (ps.length : Int)) :
    R = if wdsL (ps.getD i.toNat []) = [] then parP (ps.drop (i + 1).toNat) (i + 1 + 1) out else
      match lineE (!out.isEmpty) (wdsL (ps.getD i.toNat [])) (((ps.getD i.toNat []).length : Int) + 1) with
      | some x => ⟨[], i + 1, x.1, x.2⟩
      | none => parP (ps.drop (i + 1).toNat) (i + 1 + 1) (addL out (wdsL (ps.getD i.toNat []))) := by
  rw [h, List.drop_eq_getElem_cons (show i.toNat < ps.length by omega), parP, show (i + 1).toNat = i.toNat + 1 by omega, List.getD_eq_getElem?_getD, List.getElem?_eq_getElem (show i.toNat < ps.length by omega)]; rfl
theorem pp_skip (h : R = parP (ps.drop i.toNat) (i + 1) out) (h0 : 0 ≤ i) (hi : i < (ps.length : Int)) {L : List Wd} (hL : L = wdsL (ps.getD i.toNat [])) (hl : L.length = 0) : R = parP (ps.drop (i + 1).toNat) (i + 1 + 1) out := by
  rw [pp_at h h0 hi, if_pos (by rw [← hL]; exact List.eq_nil_of_length_eq_zero hl)]
theorem pp_bad (h : R = parP (ps.drop i.toNat) (i + 1) out) (h0 : 0 ≤ i) (hi : i < (ps.length : Int)) {L : List Wd} (hL : L = wdsL (ps.getD i.toNat [])) (hl : ¬ L.length = 0) {n : Nat} (hn : n = (ps.getD i.toNat []).length) {b : Bool} (hb : b = !out.isEmpty) {x : Int × Int} (hx : lineE b L ((n : Int) + 1) = some x) : R = ⟨[], i + 1, x.1, x.2⟩ := by
  subst hL hn hb
  rw [pp_at h h0 hi, if_neg (fun e => hl (by rw [e]; rfl)), hx]
theorem pp_ok (h : R = parP (ps.drop i.toNat) (i + 1) out) (h0 : 0 ≤ i) (hi : i < (ps.length : Int)) {L : List Wd} (hL : L = wdsL (ps.getD i.toNat [])) (hl : ¬ L.length = 0) {n : Nat} (hn : n = (ps.getD i.toNat []).length) {b : Bool} (hb : b = !out.isEmpty) (hx : lineE b L ((n : Int) + 1) = none) : R = parP (ps.drop (i + 1).toNat) (i + 1 + 1) (addL out L) := by
  subst hL hn hb
  rw [pp_at h h0 hi, if_neg (fun e => hl (by rw [e]; rfl)), hx]
theorem pp_end (h : R = parP (ps.drop i.toNat) (i + 1) out) (hi : (ps.length : Int) ≤ i) : R = finP out := by
  rw [h, List.drop_eq_nil_of_le (by omega)]; rfl
end

end Go.Proofs.YthiklimfffhbaaaDoor

