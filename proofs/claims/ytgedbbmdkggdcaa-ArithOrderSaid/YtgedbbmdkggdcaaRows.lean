/-
  No cell of these rows narrows 'for every input' (looked for: loops, veiled, ifaces, maps, wideKeys, modest, calm, conditions, laid).
  DERIVED. THE GIVEN ROWS OF THIS SEAT. 5 by the template 'for every input the law returns true; each argument reads behind the call as it read before'; 0 by the template 'total and deterministic' (their statements: YtgedbbmdkggdcaaTotals.lean).
  GIVEN WITH THE SEED: the statements are not yours to turn. If you find one false, say at which input.
  Laid BY PROGRAM, IN A SANDBOX (cutbox-rows.mjs): the forced cells as the released guide's own fill.sh prints them over the translation 9f3fdd293f1c8251… (all of the seat's roots in one cut). By AI agents, Wed Nov 11 2026. No macro, syntax, notation, axiom, sorry.
-/
import Derived.Test.YtgedbbmdkggdcaaChecked
import GoSem.Claim
import GoSem.ClaimJoined
import GoSem.ClaimMapViews
import Derived.JoinedTies
import Derived.KernelRfl
namespace Go.Proofs.Ytgedbbmdkggdcaa
/- THE CELL 'sum', in the pinned program and in every row, IS THE sha256 OF THE DUMP (.gsa) THAT YtgedbbmdkggdcaaProg.lean LOADS. Nothing in Lean hashes anything: it is a label: what it is worth is what the hold of that sum in a sandbox is worth. -/
noncomputable def Try.pinned : Pinned := { name := "ytgedbbmdkggdcaa", sum := "9f3fdd293f1c82517390ecbb34ea75c19e1d0334b1022a529a3a42287788fa92", checked := Try.checked }
namespace Rows
def none {H : Type} : Left H := { results := [], args := [] }

/-- 'magnetolaw01.ArithProducts': WHATEVER THE INPUT: true; the input reads as it did. -/
def arithProductsSpec : ChangeSpec := { name := "arithProducts", fn := fun _ => fun
  | [d1, d2, d3, d4] => { results := [.lit (.bool true)], args := [d1, d2, d3, d4] }
  | _ => none }
def arithProductsRow : OpenClaim := { program := "ytgedbbmdkggdcaa", sum := "9f3fdd293f1c82517390ecbb34ea75c19e1d0334b1022a529a3a42287788fa92", func := "magneto/magnetolaw01.ArithProducts", spec := "arithProducts", named := ["math/bits.divideError", "math/bits.overflowError"], apart := false }
def ArithProductsSaid : Prop := arithProductsRow.holds Try.pinned (OpenSpec.ofChange arithProductsSpec)

/-- ITS FALSE NEIGHBOUR: 'it returns false'. Refute it at one input. -/
def arithProductsWrong : ChangeSpec := { name := "arithProducts", fn := fun _ => fun
  | [d1, d2, d3, d4] => { results := [.lit (.bool false)], args := [d1, d2, d3, d4] }
  | _ => none }
def ArithProductsWrongFalsely : Prop := arithProductsRow.holds Try.pinned (OpenSpec.ofChange arithProductsWrong)

/-- 'magnetolaw01.ArithOrder': WHATEVER THE INPUT: true; the input reads as it did. -/
def arithOrderSpec : ChangeSpec := { name := "arithOrder", fn := fun _ => fun
  | [d1, d2, d3, d4] => { results := [.lit (.bool true)], args := [d1, d2, d3, d4] }
  | _ => none }
def arithOrderRow : OpenClaim := { program := "ytgedbbmdkggdcaa", sum := "9f3fdd293f1c82517390ecbb34ea75c19e1d0334b1022a529a3a42287788fa92", func := "magneto/magnetolaw01.ArithOrder", spec := "arithOrder", named := ["math/bits.divideError", "math/bits.overflowError"], apart := false }
def ArithOrderSaid : Prop := arithOrderRow.holds Try.pinned (OpenSpec.ofChange arithOrderSpec)

/-- ITS FALSE NEIGHBOUR: 'it returns false'. Refute it at one input. -/
def arithOrderWrong : ChangeSpec := { name := "arithOrder", fn := fun _ => fun
  | [d1, d2, d3, d4] => { results := [.lit (.bool false)], args := [d1, d2, d3, d4] }
  | _ => none }
def ArithOrderWrongFalsely : Prop := arithOrderRow.holds Try.pinned (OpenSpec.ofChange arithOrderWrong)

/-- 'magnetolaw01.ArithLimits': WHATEVER THE INPUT: true; the input reads as it did. -/
def arithLimitsSpec : ChangeSpec := { name := "arithLimits", fn := fun _ => fun
  | [d1, d2, d3, d4, d5] => { results := [.lit (.bool true)], args := [d1, d2, d3, d4, d5] }
  | _ => none }
def arithLimitsRow : OpenClaim := { program := "ytgedbbmdkggdcaa", sum := "9f3fdd293f1c82517390ecbb34ea75c19e1d0334b1022a529a3a42287788fa92", func := "magneto/magnetolaw01.ArithLimits", spec := "arithLimits", named := ["math/bits.divideError", "math/bits.overflowError"], apart := false }
def ArithLimitsSaid : Prop := arithLimitsRow.holds Try.pinned (OpenSpec.ofChange arithLimitsSpec)

/-- ITS FALSE NEIGHBOUR: 'it returns false'. Refute it at one input. -/
def arithLimitsWrong : ChangeSpec := { name := "arithLimits", fn := fun _ => fun
  | [d1, d2, d3, d4, d5] => { results := [.lit (.bool false)], args := [d1, d2, d3, d4, d5] }
  | _ => none }
def ArithLimitsWrongFalsely : Prop := arithLimitsRow.holds Try.pinned (OpenSpec.ofChange arithLimitsWrong)

/-- 'magnetolaw01.ArithRounds': WHATEVER THE INPUT: true; the input reads as it did. -/
def arithRoundsSpec : ChangeSpec := { name := "arithRounds", fn := fun _ => fun
  | [d1, d2] => { results := [.lit (.bool true)], args := [d1, d2] }
  | _ => none }
def arithRoundsRow : OpenClaim := { program := "ytgedbbmdkggdcaa", sum := "9f3fdd293f1c82517390ecbb34ea75c19e1d0334b1022a529a3a42287788fa92", func := "magneto/magnetolaw01.ArithRounds", spec := "arithRounds", named := ["math/bits.divideError", "math/bits.overflowError"], apart := false }
def ArithRoundsSaid : Prop := arithRoundsRow.holds Try.pinned (OpenSpec.ofChange arithRoundsSpec)

/-- ITS FALSE NEIGHBOUR: 'it returns false'. Refute it at one input. -/
def arithRoundsWrong : ChangeSpec := { name := "arithRounds", fn := fun _ => fun
  | [d1, d2] => { results := [.lit (.bool false)], args := [d1, d2] }
  | _ => none }
def ArithRoundsWrongFalsely : Prop := arithRoundsRow.holds Try.pinned (OpenSpec.ofChange arithRoundsWrong)

/-- 'magnetolaw01.ArithDivides': WHATEVER THE INPUT: true; the input reads as it did. -/
def arithDividesSpec : ChangeSpec := { name := "arithDivides", fn := fun _ => fun
  | [d1, d2, d3, d4] => { results := [.lit (.bool true)], args := [d1, d2, d3, d4] }
  | _ => none }
def arithDividesRow : OpenClaim := { program := "ytgedbbmdkggdcaa", sum := "9f3fdd293f1c82517390ecbb34ea75c19e1d0334b1022a529a3a42287788fa92", func := "magneto/magnetolaw01.ArithDivides", spec := "arithDivides", named := ["math/bits.divideError", "math/bits.overflowError"], apart := false }
def ArithDividesSaid : Prop := arithDividesRow.holds Try.pinned (OpenSpec.ofChange arithDividesSpec)

/-- ITS FALSE NEIGHBOUR: 'it returns false'. Refute it at one input. -/
def arithDividesWrong : ChangeSpec := { name := "arithDivides", fn := fun _ => fun
  | [d1, d2, d3, d4] => { results := [.lit (.bool false)], args := [d1, d2, d3, d4] }
  | _ => none }
def ArithDividesWrongFalsely : Prop := arithDividesRow.holds Try.pinned (OpenSpec.ofChange arithDividesWrong)

/- THE SECOND FORM. 'bulk': how many values and letters a reading holds, each counted each time it is reached (what is shared counts as often as it is met; a slice's spare places count too). A statement '..UptoSaid' is the law's where the arguments, and the package variables that the reading takes, are together of bulk at most 1048576: NARROWER than '..Said'. Prove '..Said' where nothing that the law and all that it calls make is longer than what came in: it says more and counts as full. Else prove '..UptoSaid'. A law counts once. -/
mutual
def uptoBulk {H : Type} : DataW H → Nat
  | .lit (.string bytes) => bytes.length + 1
  | .lit _ => 1
  | .nil => 1
  | .ptr d => uptoBulk d + 1
  | .slice elems spare => uptoBulkAll elems + uptoBulkAll spare + 1
  | .agg parts => uptoBulkAll parts + 1
  | .iface _ d => uptoBulk d + 1
  | .map entries => uptoBulkEntries entries + 1
  | .held _ => 1
def uptoBulkAll {H : Type} : List (DataW H) → Nat
  | [] => 0
  | d :: r => uptoBulk d + uptoBulkAll r
def uptoBulkEntries {H : Type} : List (Lit × DataW H) → Nat
  | [] => 0
  | x :: r => uptoBulkEntry x + uptoBulkEntries r
def uptoBulkEntry {H : Type} : Lit × DataW H → Nat
  | (.string bytes, d) => bytes.length + uptoBulk d + 1
  | (_, d) => uptoBulk d + 1
 end
def uptoSmall : (H : Type) → List (DataW H) → Bool := fun _ ds => decide (uptoBulkAll ds ≤ 1048576)
def OpenSpec.upto (s : _root_.Go.ChangeSpec) : _root_.Go.OpenSpec := { _root_.Go.OpenSpec.ofChange s with cond := some uptoSmall }

/-- 'magnetolaw01.ArithProducts', WHERE WHAT IT READS IS OF BULK AT MOST 1048576: true; the input reads as it did. -/
def arithProductsUptoRow : OpenClaim := { program := "ytgedbbmdkggdcaa", sum := "9f3fdd293f1c82517390ecbb34ea75c19e1d0334b1022a529a3a42287788fa92", func := "magneto/magnetolaw01.ArithProducts", spec := "arithProducts", named := ["math/bits.divideError", "math/bits.overflowError"], apart := false, narrowed := true }
def ArithProductsUptoSaid : Prop := arithProductsUptoRow.holds Try.pinned (OpenSpec.upto arithProductsSpec)

/-- 'magnetolaw01.ArithOrder', WHERE WHAT IT READS IS OF BULK AT MOST 1048576: true; the input reads as it did. -/
def arithOrderUptoRow : OpenClaim := { program := "ytgedbbmdkggdcaa", sum := "9f3fdd293f1c82517390ecbb34ea75c19e1d0334b1022a529a3a42287788fa92", func := "magneto/magnetolaw01.ArithOrder", spec := "arithOrder", named := ["math/bits.divideError", "math/bits.overflowError"], apart := false, narrowed := true }
def ArithOrderUptoSaid : Prop := arithOrderUptoRow.holds Try.pinned (OpenSpec.upto arithOrderSpec)

/-- 'magnetolaw01.ArithLimits', WHERE WHAT IT READS IS OF BULK AT MOST 1048576: true; the input reads as it did. -/
def arithLimitsUptoRow : OpenClaim := { program := "ytgedbbmdkggdcaa", sum := "9f3fdd293f1c82517390ecbb34ea75c19e1d0334b1022a529a3a42287788fa92", func := "magneto/magnetolaw01.ArithLimits", spec := "arithLimits", named := ["math/bits.divideError", "math/bits.overflowError"], apart := false, narrowed := true }
def ArithLimitsUptoSaid : Prop := arithLimitsUptoRow.holds Try.pinned (OpenSpec.upto arithLimitsSpec)

/-- 'magnetolaw01.ArithRounds', WHERE WHAT IT READS IS OF BULK AT MOST 1048576: true; the input reads as it did. -/
def arithRoundsUptoRow : OpenClaim := { program := "ytgedbbmdkggdcaa", sum := "9f3fdd293f1c82517390ecbb34ea75c19e1d0334b1022a529a3a42287788fa92", func := "magneto/magnetolaw01.ArithRounds", spec := "arithRounds", named := ["math/bits.divideError", "math/bits.overflowError"], apart := false, narrowed := true }
def ArithRoundsUptoSaid : Prop := arithRoundsUptoRow.holds Try.pinned (OpenSpec.upto arithRoundsSpec)

/-- 'magnetolaw01.ArithDivides', WHERE WHAT IT READS IS OF BULK AT MOST 1048576: true; the input reads as it did. -/
def arithDividesUptoRow : OpenClaim := { program := "ytgedbbmdkggdcaa", sum := "9f3fdd293f1c82517390ecbb34ea75c19e1d0334b1022a529a3a42287788fa92", func := "magneto/magnetolaw01.ArithDivides", spec := "arithDivides", named := ["math/bits.divideError", "math/bits.overflowError"], apart := false, narrowed := true }
def ArithDividesUptoSaid : Prop := arithDividesUptoRow.holds Try.pinned (OpenSpec.upto arithDividesSpec)

end Rows
end Go.Proofs.Ytgedbbmdkggdcaa
