/- Walks of functions of this seat, printed by a program over the engine. Conditions: as each theorem says. -/
import Derived.Test.YthiklimfffhbaaaDoorZlP13
namespace Go.Proofs.YthiklimfffhbaaaDoor
open Go.Eng Go.RowKit
set_option linter.unusedSimpArgs false
set_option linter.unusedVariables false
structure Tk where
  gKind : Int
  gText : ByteArray
  gPlace_Line : Int
  gPlace_Column : Int
/-! the reference's words of a line -/
abbrev tk0 : Tk := ⟨0, ByteArray.empty, 0, 0⟩
section
variable {s : ByteArray} {ln : Int} {W : List Wd} {out A : List Tk} {i : Int} {opn : Bool}
end
section
variable {out : List Tk} {i : Int}
end
/-! the reference's reader -/
structure Rs where
  j : Nat
  pl : Int
  pc : Int
  e : Int
def nxT (W : List Tk) (r : Rs) : Tk := if r.e = 0 then W.getD r.j tk0 else tk0
def nxS (W : List Tk) (el ec : Int) (r : Rs) : Rs := if r.e = 0 then (if r.j < W.length then ⟨r.j + 1, r.pl, r.pc, 0⟩ else ⟨r.j, el, ec, 4⟩) else r
def rfS (r : Rs) (t : Tk) : Rs := if r.e = 0 then ⟨r.j, t.gPlace_Line, t.gPlace_Column, 3⟩ else r
def nuS (W : List Tk) (el ec : Int) (r : Rs) : Rs := if numOk (nxT W r).gText then nxS W el ec r else rfS (nxS W el ec r) (nxT W r)
def eiS (W : List Tk) (el ec : Int) (a b : ByteArray) (r : Rs) : Rs := if eqT (nxT W r).gText a || eqT (nxT W r).gText b then nxS W el ec r else rfS (nxS W el ec r) (nxT W r)
section
variable {L : List Wd} {ln e : Int} {R : Option (Int × Int)} {ks : List Nat} {opt k n : Nat} {r : Rs}
end
/-! a line, by the reader -/
section
variable (W : List Tk) (el ec : Int) (r : Rs)
abbrev g1 : Rs := nxS W el ec r
abbrev g2 : Rs := nuS W el ec (g1 W el ec r)
abbrev g3 : Rs := nuS W el ec (g2 W el ec r)
abbrev g4 : Rs := eiS W el ec WIn WMo (g3 W el ec r)
end
section
variable {L : List Wd} {ln e : Int} {out out' : List Frm} {r' : Rs}
end

section
variable {W : List Tk} {el ec : Int} {r : Rs} {a p : Option Addr} {c : Nat}
end

end Go.Proofs.YthiklimfffhbaaaDoor

