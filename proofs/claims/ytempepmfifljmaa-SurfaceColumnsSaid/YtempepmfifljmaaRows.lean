/-
  No cell of these rows narrows 'for every input' (looked for: loops, veiled, ifaces, maps, wideKeys, modest, calm, conditions, laid).
  DERIVED. THE GIVEN ROWS OF THIS SEAT. 8 by the template 'for every input the law returns true; each argument reads behind the call as it read before'; 0 by the template 'total and deterministic' (their statements: YtempepmfifljmaaTotals.lean).
  GIVEN WITH THE SEED: the statements are not yours to turn. If you find one false, say at which input.
  Laid BY PROGRAM, IN A SANDBOX (cutbox-rows.mjs): the forced cells as the released guide's own fill.sh prints them over the translation 01e5704dd2b2d9e8… (all of the seat's roots in one cut). By AI agents, Wed Nov 11 2026. No macro, syntax, notation, axiom, sorry.
-/
import Derived.Test.YtempepmfifljmaaChecked
import GoSem.Claim
import GoSem.ClaimJoined
import GoSem.ClaimMapViews
import Derived.JoinedTies
import Derived.KernelRfl
namespace Go.Proofs.Ytempepmfifljmaa
/- THE CELL 'sum', in the pinned program and in every row, IS THE sha256 OF THE DUMP (.gsa) THAT YtempepmfifljmaaProg.lean LOADS. Nothing in Lean hashes anything: it is a label: what it is worth is what the hold of that sum in a sandbox is worth. -/
noncomputable def Try.pinned : Pinned := { name := "ytempepmfifljmaa", sum := "01e5704dd2b2d9e88b2594742d05495d55ceca623d0497ac6878bc2261529dd6", checked := Try.checked }
namespace Rows
def none {H : Type} : Left H := { results := [], args := [] }

/-- 'magnetolaw06.SurfaceValues': WHATEVER THE INPUT: true; the input reads as it did. -/
def surfaceValuesSpec : ChangeSpec := { name := "surfaceValues", fn := fun _ => fun
  | [d1, d2, d3] => { results := [.lit (.bool true)], args := [d1, d2, d3] }
  | _ => none }
def surfaceValuesRow : OpenClaim := { program := "ytempepmfifljmaa", sum := "01e5704dd2b2d9e88b2594742d05495d55ceca623d0497ac6878bc2261529dd6", func := "magneto/magnetolaw06.SurfaceValues", spec := "surfaceValues", unfollowed := true, recurses := true, named := ["math/bits.divideError", "math/bits.overflowError"], apart := false }
def SurfaceValuesSaid : Prop := surfaceValuesRow.holds Try.pinned (OpenSpec.ofChange surfaceValuesSpec)

/-- ITS FALSE NEIGHBOUR: 'it returns false'. Refute it at one input. -/
def surfaceValuesWrong : ChangeSpec := { name := "surfaceValues", fn := fun _ => fun
  | [d1, d2, d3] => { results := [.lit (.bool false)], args := [d1, d2, d3] }
  | _ => none }
def SurfaceValuesWrongFalsely : Prop := surfaceValuesRow.holds Try.pinned (OpenSpec.ofChange surfaceValuesWrong)

/-- 'magnetolaw06.SurfaceNodes': WHATEVER THE INPUT: true; the input reads as it did. -/
def surfaceNodesSpec : ChangeSpec := { name := "surfaceNodes", fn := fun _ => fun
  | [d1, d2, d3, d4] => { results := [.lit (.bool true)], args := [d1, d2, d3, d4] }
  | _ => none }
def surfaceNodesRow : OpenClaim := { program := "ytempepmfifljmaa", sum := "01e5704dd2b2d9e88b2594742d05495d55ceca623d0497ac6878bc2261529dd6", func := "magneto/magnetolaw06.SurfaceNodes", spec := "surfaceNodes", unfollowed := true, recurses := true, named := ["math/bits.divideError", "math/bits.overflowError"], apart := false }
def SurfaceNodesSaid : Prop := surfaceNodesRow.holds Try.pinned (OpenSpec.ofChange surfaceNodesSpec)

/-- ITS FALSE NEIGHBOUR: 'it returns false'. Refute it at one input. -/
def surfaceNodesWrong : ChangeSpec := { name := "surfaceNodes", fn := fun _ => fun
  | [d1, d2, d3, d4] => { results := [.lit (.bool false)], args := [d1, d2, d3, d4] }
  | _ => none }
def SurfaceNodesWrongFalsely : Prop := surfaceNodesRow.holds Try.pinned (OpenSpec.ofChange surfaceNodesWrong)

/-- 'magnetolaw06.SurfaceInverse': WHATEVER THE INPUT: true; the input reads as it did. -/
def surfaceInverseSpec : ChangeSpec := { name := "surfaceInverse", fn := fun _ => fun
  | [d1, d2, d3] => { results := [.lit (.bool true)], args := [d1, d2, d3] }
  | _ => none }
def surfaceInverseRow : OpenClaim := { program := "ytempepmfifljmaa", sum := "01e5704dd2b2d9e88b2594742d05495d55ceca623d0497ac6878bc2261529dd6", func := "magneto/magnetolaw06.SurfaceInverse", spec := "surfaceInverse", unfollowed := true, recurses := true, named := ["math/bits.divideError", "math/bits.overflowError"], apart := false }
def SurfaceInverseSaid : Prop := surfaceInverseRow.holds Try.pinned (OpenSpec.ofChange surfaceInverseSpec)

/-- ITS FALSE NEIGHBOUR: 'it returns false'. Refute it at one input. -/
def surfaceInverseWrong : ChangeSpec := { name := "surfaceInverse", fn := fun _ => fun
  | [d1, d2, d3] => { results := [.lit (.bool false)], args := [d1, d2, d3] }
  | _ => none }
def SurfaceInverseWrongFalsely : Prop := surfaceInverseRow.holds Try.pinned (OpenSpec.ofChange surfaceInverseWrong)

/-- 'magnetolaw06.SurfaceMonotone': WHATEVER THE INPUT: true; the input reads as it did. -/
def surfaceMonotoneSpec : ChangeSpec := { name := "surfaceMonotone", fn := fun _ => fun
  | [d1, d2, d3, d4, d5] => { results := [.lit (.bool true)], args := [d1, d2, d3, d4, d5] }
  | _ => none }
def surfaceMonotoneRow : OpenClaim := { program := "ytempepmfifljmaa", sum := "01e5704dd2b2d9e88b2594742d05495d55ceca623d0497ac6878bc2261529dd6", func := "magneto/magnetolaw06.SurfaceMonotone", spec := "surfaceMonotone", unfollowed := true, recurses := true, named := ["math/bits.divideError", "math/bits.overflowError"], apart := false }
def SurfaceMonotoneSaid : Prop := surfaceMonotoneRow.holds Try.pinned (OpenSpec.ofChange surfaceMonotoneSpec)

/-- ITS FALSE NEIGHBOUR: 'it returns false'. Refute it at one input. -/
def surfaceMonotoneWrong : ChangeSpec := { name := "surfaceMonotone", fn := fun _ => fun
  | [d1, d2, d3, d4, d5] => { results := [.lit (.bool false)], args := [d1, d2, d3, d4, d5] }
  | _ => none }
def SurfaceMonotoneWrongFalsely : Prop := surfaceMonotoneRow.holds Try.pinned (OpenSpec.ofChange surfaceMonotoneWrong)

/-- 'magnetolaw06.SurfaceCurves': WHATEVER THE INPUT: true; the input reads as it did. -/
def surfaceCurvesSpec : ChangeSpec := { name := "surfaceCurves", fn := fun _ => fun
  | [d1, d2, d3] => { results := [.lit (.bool true)], args := [d1, d2, d3] }
  | _ => none }
def surfaceCurvesRow : OpenClaim := { program := "ytempepmfifljmaa", sum := "01e5704dd2b2d9e88b2594742d05495d55ceca623d0497ac6878bc2261529dd6", func := "magneto/magnetolaw06.SurfaceCurves", spec := "surfaceCurves", unfollowed := true, recurses := true, named := ["math/bits.divideError", "math/bits.overflowError"], apart := false }
def SurfaceCurvesSaid : Prop := surfaceCurvesRow.holds Try.pinned (OpenSpec.ofChange surfaceCurvesSpec)

/-- ITS FALSE NEIGHBOUR: 'it returns false'. Refute it at one input. -/
def surfaceCurvesWrong : ChangeSpec := { name := "surfaceCurves", fn := fun _ => fun
  | [d1, d2, d3] => { results := [.lit (.bool false)], args := [d1, d2, d3] }
  | _ => none }
def SurfaceCurvesWrongFalsely : Prop := surfaceCurvesRow.holds Try.pinned (OpenSpec.ofChange surfaceCurvesWrong)

/-- 'magnetolaw06.SurfaceOver': WHATEVER THE INPUT: true; the input reads as it did. -/
def surfaceOverSpec : ChangeSpec := { name := "surfaceOver", fn := fun _ => fun
  | [d1, d2, d3] => { results := [.lit (.bool true)], args := [d1, d2, d3] }
  | _ => none }
def surfaceOverRow : OpenClaim := { program := "ytempepmfifljmaa", sum := "01e5704dd2b2d9e88b2594742d05495d55ceca623d0497ac6878bc2261529dd6", func := "magneto/magnetolaw06.SurfaceOver", spec := "surfaceOver", unfollowed := true, recurses := true, named := ["math/bits.divideError", "math/bits.overflowError"], apart := false }
def SurfaceOverSaid : Prop := surfaceOverRow.holds Try.pinned (OpenSpec.ofChange surfaceOverSpec)

/-- ITS FALSE NEIGHBOUR: 'it returns false'. Refute it at one input. -/
def surfaceOverWrong : ChangeSpec := { name := "surfaceOver", fn := fun _ => fun
  | [d1, d2, d3] => { results := [.lit (.bool false)], args := [d1, d2, d3] }
  | _ => none }
def SurfaceOverWrongFalsely : Prop := surfaceOverRow.holds Try.pinned (OpenSpec.ofChange surfaceOverWrong)

/-- 'magnetolaw06.SurfaceInside': WHATEVER THE INPUT: true; the input reads as it did. -/
def surfaceInsideSpec : ChangeSpec := { name := "surfaceInside", fn := fun _ => fun
  | [d1, d2, d3, d4, d5, d6, d7] => { results := [.lit (.bool true)], args := [d1, d2, d3, d4, d5, d6, d7] }
  | _ => none }
def surfaceInsideRow : OpenClaim := { program := "ytempepmfifljmaa", sum := "01e5704dd2b2d9e88b2594742d05495d55ceca623d0497ac6878bc2261529dd6", func := "magneto/magnetolaw06.SurfaceInside", spec := "surfaceInside", unfollowed := true, recurses := true, named := ["math/bits.divideError", "math/bits.overflowError"], apart := false }
def SurfaceInsideSaid : Prop := surfaceInsideRow.holds Try.pinned (OpenSpec.ofChange surfaceInsideSpec)

/-- ITS FALSE NEIGHBOUR: 'it returns false'. Refute it at one input. -/
def surfaceInsideWrong : ChangeSpec := { name := "surfaceInside", fn := fun _ => fun
  | [d1, d2, d3, d4, d5, d6, d7] => { results := [.lit (.bool false)], args := [d1, d2, d3, d4, d5, d6, d7] }
  | _ => none }
def SurfaceInsideWrongFalsely : Prop := surfaceInsideRow.holds Try.pinned (OpenSpec.ofChange surfaceInsideWrong)

/-- 'magnetolaw06.SurfaceColumns': WHATEVER THE INPUT: true; the input reads as it did. -/
def surfaceColumnsSpec : ChangeSpec := { name := "surfaceColumns", fn := fun _ => fun
  | [d1, d2, d3] => { results := [.lit (.bool true)], args := [d1, d2, d3] }
  | _ => none }
def surfaceColumnsRow : OpenClaim := { program := "ytempepmfifljmaa", sum := "01e5704dd2b2d9e88b2594742d05495d55ceca623d0497ac6878bc2261529dd6", func := "magneto/magnetolaw06.SurfaceColumns", spec := "surfaceColumns", unfollowed := true, recurses := true, named := ["math/bits.divideError", "math/bits.overflowError"], apart := false }
def SurfaceColumnsSaid : Prop := surfaceColumnsRow.holds Try.pinned (OpenSpec.ofChange surfaceColumnsSpec)

/-- ITS FALSE NEIGHBOUR: 'it returns false'. Refute it at one input. -/
def surfaceColumnsWrong : ChangeSpec := { name := "surfaceColumns", fn := fun _ => fun
  | [d1, d2, d3] => { results := [.lit (.bool false)], args := [d1, d2, d3] }
  | _ => none }
def SurfaceColumnsWrongFalsely : Prop := surfaceColumnsRow.holds Try.pinned (OpenSpec.ofChange surfaceColumnsWrong)

/- THE SECOND FORM. 'bulk': how many values and letters a reading holds, each counted each time it is reached (what is shared counts as often as it is met; a slice's spare places count too). A statement '..UptoSaid' is the law's where the arguments, and the package variables that the reading takes, are together of bulk at most 1048576: NARROWER than '..Said'. Prove '..Said' where nothing that the law and all that it calls make is longer than what came in: it says more and counts as full. Else prove '..UptoSaid'. A law counts once. -/
mutual
def uptoBulk {H : Type} : DataW H → Nat
  | .lit (.string bytes) => bytes.length + 1
  | .lit _ => 1
  | .nil => 1
  | .ptr d => uptoBulk d + 1
  | .slice elems spare => uptoBulkAll elems + uptoBulkAll spare + 1
  | .agg parts => uptoBulkAll parts + 1
  | .iface _ d => uptoBulk d + 1
  | .map entries => uptoBulkEntries entries + 1
  | .held _ => 1
def uptoBulkAll {H : Type} : List (DataW H) → Nat
  | [] => 0
  | d :: r => uptoBulk d + uptoBulkAll r
def uptoBulkEntries {H : Type} : List (Lit × DataW H) → Nat
  | [] => 0
  | x :: r => uptoBulkEntry x + uptoBulkEntries r
def uptoBulkEntry {H : Type} : Lit × DataW H → Nat
  | (.string bytes, d) => bytes.length + uptoBulk d + 1
  | (_, d) => uptoBulk d + 1
 end
def uptoSmall : (H : Type) → List (DataW H) → Bool := fun _ ds => decide (uptoBulkAll ds ≤ 1048576)
def OpenSpec.upto (s : _root_.Go.ChangeSpec) : _root_.Go.OpenSpec := { _root_.Go.OpenSpec.ofChange s with cond := some uptoSmall }

/-- 'magnetolaw06.SurfaceValues', WHERE WHAT IT READS IS OF BULK AT MOST 1048576: true; the input reads as it did. -/
def surfaceValuesUptoRow : OpenClaim := { program := "ytempepmfifljmaa", sum := "01e5704dd2b2d9e88b2594742d05495d55ceca623d0497ac6878bc2261529dd6", func := "magneto/magnetolaw06.SurfaceValues", spec := "surfaceValues", unfollowed := true, recurses := true, named := ["math/bits.divideError", "math/bits.overflowError"], apart := false, narrowed := true }
def SurfaceValuesUptoSaid : Prop := surfaceValuesUptoRow.holds Try.pinned (OpenSpec.upto surfaceValuesSpec)

/-- 'magnetolaw06.SurfaceNodes', WHERE WHAT IT READS IS OF BULK AT MOST 1048576: true; the input reads as it did. -/
def surfaceNodesUptoRow : OpenClaim := { program := "ytempepmfifljmaa", sum := "01e5704dd2b2d9e88b2594742d05495d55ceca623d0497ac6878bc2261529dd6", func := "magneto/magnetolaw06.SurfaceNodes", spec := "surfaceNodes", unfollowed := true, recurses := true, named := ["math/bits.divideError", "math/bits.overflowError"], apart := false, narrowed := true }
def SurfaceNodesUptoSaid : Prop := surfaceNodesUptoRow.holds Try.pinned (OpenSpec.upto surfaceNodesSpec)

/-- 'magnetolaw06.SurfaceInverse', WHERE WHAT IT READS IS OF BULK AT MOST 1048576: true; the input reads as it did. -/
def surfaceInverseUptoRow : OpenClaim := { program := "ytempepmfifljmaa", sum := "01e5704dd2b2d9e88b2594742d05495d55ceca623d0497ac6878bc2261529dd6", func := "magneto/magnetolaw06.SurfaceInverse", spec := "surfaceInverse", unfollowed := true, recurses := true, named := ["math/bits.divideError", "math/bits.overflowError"], apart := false, narrowed := true }
def SurfaceInverseUptoSaid : Prop := surfaceInverseUptoRow.holds Try.pinned (OpenSpec.upto surfaceInverseSpec)

/-- 'magnetolaw06.SurfaceMonotone', WHERE WHAT IT READS IS OF BULK AT MOST 1048576: true; the input reads as it did. -/
def surfaceMonotoneUptoRow : OpenClaim := { program := "ytempepmfifljmaa", sum := "01e5704dd2b2d9e88b2594742d05495d55ceca623d0497ac6878bc2261529dd6", func := "magneto/magnetolaw06.SurfaceMonotone", spec := "surfaceMonotone", unfollowed := true, recurses := true, named := ["math/bits.divideError", "math/bits.overflowError"], apart := false, narrowed := true }
def SurfaceMonotoneUptoSaid : Prop := surfaceMonotoneUptoRow.holds Try.pinned (OpenSpec.upto surfaceMonotoneSpec)

/-- 'magnetolaw06.SurfaceCurves', WHERE WHAT IT READS IS OF BULK AT MOST 1048576: true; the input reads as it did. -/
def surfaceCurvesUptoRow : OpenClaim := { program := "ytempepmfifljmaa", sum := "01e5704dd2b2d9e88b2594742d05495d55ceca623d0497ac6878bc2261529dd6", func := "magneto/magnetolaw06.SurfaceCurves", spec := "surfaceCurves", unfollowed := true, recurses := true, named := ["math/bits.divideError", "math/bits.overflowError"], apart := false, narrowed := true }
def SurfaceCurvesUptoSaid : Prop := surfaceCurvesUptoRow.holds Try.pinned (OpenSpec.upto surfaceCurvesSpec)

/-- 'magnetolaw06.SurfaceOver', WHERE WHAT IT READS IS OF BULK AT MOST 1048576: true; the input reads as it did. -/
def surfaceOverUptoRow : OpenClaim := { program := "ytempepmfifljmaa", sum := "01e5704dd2b2d9e88b2594742d05495d55ceca623d0497ac6878bc2261529dd6", func := "magneto/magnetolaw06.SurfaceOver", spec := "surfaceOver", unfollowed := true, recurses := true, named := ["math/bits.divideError", "math/bits.overflowError"], apart := false, narrowed := true }
def SurfaceOverUptoSaid : Prop := surfaceOverUptoRow.holds Try.pinned (OpenSpec.upto surfaceOverSpec)

/-- 'magnetolaw06.SurfaceInside', WHERE WHAT IT READS IS OF BULK AT MOST 1048576: true; the input reads as it did. -/
def surfaceInsideUptoRow : OpenClaim := { program := "ytempepmfifljmaa", sum := "01e5704dd2b2d9e88b2594742d05495d55ceca623d0497ac6878bc2261529dd6", func := "magneto/magnetolaw06.SurfaceInside", spec := "surfaceInside", unfollowed := true, recurses := true, named := ["math/bits.divideError", "math/bits.overflowError"], apart := false, narrowed := true }
def SurfaceInsideUptoSaid : Prop := surfaceInsideUptoRow.holds Try.pinned (OpenSpec.upto surfaceInsideSpec)

/-- 'magnetolaw06.SurfaceColumns', WHERE WHAT IT READS IS OF BULK AT MOST 1048576: true; the input reads as it did. -/
def surfaceColumnsUptoRow : OpenClaim := { program := "ytempepmfifljmaa", sum := "01e5704dd2b2d9e88b2594742d05495d55ceca623d0497ac6878bc2261529dd6", func := "magneto/magnetolaw06.SurfaceColumns", spec := "surfaceColumns", unfollowed := true, recurses := true, named := ["math/bits.divideError", "math/bits.overflowError"], apart := false, narrowed := true }
def SurfaceColumnsUptoSaid : Prop := surfaceColumnsUptoRow.holds Try.pinned (OpenSpec.upto surfaceColumnsSpec)

end Rows
end Go.Proofs.Ytempepmfifljmaa
