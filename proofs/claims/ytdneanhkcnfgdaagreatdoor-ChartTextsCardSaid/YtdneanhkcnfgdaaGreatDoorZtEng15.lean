/- The proof engine, fifteenth part: bytes of a constant text, records in a block of the call's own. Conditions: none; it is generic in the program. -/
import Derived.Test.YtdneanhkcnfgdaaGreatDoorZtEng10
import Derived.Lib.ConvBytes
import Derived.Lib.AtoiErrMem
import Derived.Lib.SlBytesConst
set_option linter.unusedSimpArgs false
set_option linter.unusedVariables false
namespace Go.Eng
open Go.RowKit
variable {P:Program} {f:FuncId} {N:Nat} {R:Value→World→Prop}

theorem add_block (b o j:Nat):(⟨b,o,none⟩:Addr).add j=⟨b,o+j,none⟩:=by
  unfold Addr.add
  split
  · rename_i h0;subst h0;rfl
  · simp
end Go.Eng

