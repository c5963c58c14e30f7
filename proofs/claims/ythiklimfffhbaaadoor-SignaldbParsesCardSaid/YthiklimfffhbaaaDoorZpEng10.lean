/- The proof engine, tenth part: the contracts of Go's library (the shelf) as the engine's contracts; numerals and joined texts. Conditions: none; it is generic in the program. -/
import Derived.Test.YthiklimfffhbaaaDoorZpEng9
import Derived.Lib.ItoaNum
import Derived.Lib.Join
import Derived.Lib.SmallJoins
import Derived.WalkSmall
import Derived.Sort.Grow
namespace Go.Eng
set_option linter.unusedSimpArgs false
set_option linter.unusedVariables false
open Go.RowKit
variable {P : Program} {f : FuncId} {N : Nat} {R : Value → World → Prop}

theorem Ret.of_calls {g : FuncId} {args : Array Value} {w : World} {v : Value} {R : World → Prop} {Q : Value → World → Prop} (h : Calls P g args w fun e w' => e = .returned v ∧ R w') (hq : ∀ w', R w' → Q v w') : Ret P g args w Q :=
  Calls.mono h fun _ _ ⟨e, r⟩ => ⟨v, e, hq _ r⟩

theorem Sep.of_below {w w' : World} (h : Below w.heap.size w w') : Sep w [] w' := ⟨h, by simp, by simp, .nil⟩

theorem Sep.tab {w w' : World} {L : List Claim} (S : Sep w L w') {n : String} {g : Nat} {k : IntKind} {zs : List Int} (hg : P.globalNamed n = some g) (h : Lib.TabIs P w n k zs) : Lib.TabIs P w' n k zs :=
  Go.Joins.tab_stays hg h S.below (Nat.le_refl _)

theorem size_toList (b : ByteArray) : b.data.toList.length = b.size := by rw [Array.length_toList]; rfl

theorem lit_size (a : Array UInt8) : ByteArray.size ⟨a⟩ = a.size := rfl

end Go.Eng

