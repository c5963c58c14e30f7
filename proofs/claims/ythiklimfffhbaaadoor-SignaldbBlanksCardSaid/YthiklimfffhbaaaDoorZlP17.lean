/- Walks of functions of this seat, printed by a program over the engine. Conditions: as each theorem says. -/
import Derived.Test.YthiklimfffhbaaaDoorZlP16
namespace Go.Proofs.YthiklimfffhbaaaDoor
open Go.Eng Go.RowKit
set_option linter.unusedSimpArgs false
set_option linter.unusedVariables false
section
variable {W : List Tk} {el ec : Int} {r r' : Rs} {out out' : List Frm}
end
/-! the reference's pieces of the text -/
section
variable {s : ByteArray} {f i ln : Int} {R : PRes} {oc : List Frm}
end
/-! claims with the frames' signals behind other claims -/
theorem clm_perm {w0 w : World} {A B : List Eng.Claim} (h : A.Perm B) (S : Sep w0 A w) : Sep w0 B w :=
  ⟨S.below, fun c hc => S.all c (h.mem_iff.2 hc), fun c hc => S.fresh c (h.mem_iff.2 hc), (h.pairwise_iff (fun h b hb hb2 => h b hb2 hb)).1 S.apart⟩
section
variable {w0 w : World} {A L0 : List Eng.Claim} {out : List Frm} {x : Frm}
end
end Go.Proofs.YthiklimfffhbaaaDoor

