/-
  NARROWER THAN 'FOR EVERY INPUT', by the rows' own cells (each row's printed sentence says how): CurveInverses: laid · CurveUndone: laid · CurveContains: laid · CurveNodes: laid · CurveValues: laid · CurveChanges: laid · CurveLinear: laid.
  DERIVED. THE GIVEN ROWS OF THIS SEAT. 7 by the template 'for every input the law returns true; each argument reads behind the call as it read before'; 0 by the template 'total and deterministic' (their statements: YtdilhoibcbihlaaDoorTotals.lean).
  GIVEN WITH THE SEED: the statements are not yours to turn. If you find one false, say at which input.
  Laid BY PROGRAM, IN A SANDBOX (cutbox-rows.mjs): the forced cells as the released guide's own fill.sh prints them over the translation ee13b7072b497ec7… (all of the seat's roots in one cut). By AI agents, Wed Nov 11 2026. No macro, syntax, notation, axiom, sorry.
-/
import Derived.Test.YtdilhoibcbihlaaDoorChecked
import GoSem.Claim
import GoSem.ClaimJoined
import GoSem.ClaimMapViews
import Derived.JoinedTies
import Derived.KernelRfl
namespace Go.Proofs.YtdilhoibcbihlaaDoor
/- THE CELL 'sum', in the pinned program and in every row, IS THE sha256 OF THE DUMP (.gsa) THAT YtdilhoibcbihlaaDoorProg.lean LOADS. Nothing in Lean hashes anything: it is a label: what it is worth is what the hold of that sum in a sandbox is worth. -/
noncomputable def Tryd.pinned : Pinned := { name := "ytdilhoibcbihlaadoor", sum := "ee13b7072b497ec77793a10899874a73673228e13e1de2dd94f8c929e1356e48", checked := Tryd.checked }
namespace Rows
def none {H : Type} : Left H := { results := [], args := [] }

/- WHAT THE LISTED PACKAGE-LEVEL VARIABLES READ AS WHEN THE CALL BEGINS. Each datum BY PROGRAM (the guide's laid-datum.mjs) off the statement by which the dump's own 'gosem.cut.vars' lays the variable. In a bare row this is a premise. The card (YtdilhoibcbihlaaDoorCards.lean) ties it to the program's text. -/
def laid_math_bits_deBruijn32tab {H : Type} : DataW H := .agg [.lit (.int .u8 0), .lit (.int .u8 1), .lit (.int .u8 28), .lit (.int .u8 2), .lit (.int .u8 29), .lit (.int .u8 14), .lit (.int .u8 24), .lit (.int .u8 3), .lit (.int .u8 30), .lit (.int .u8 22), .lit (.int .u8 20), .lit (.int .u8 15), .lit (.int .u8 25), .lit (.int .u8 17), .lit (.int .u8 4), .lit (.int .u8 8), .lit (.int .u8 31), .lit (.int .u8 27), .lit (.int .u8 13), .lit (.int .u8 23), .lit (.int .u8 21), .lit (.int .u8 19), .lit (.int .u8 16), .lit (.int .u8 7), .lit (.int .u8 26), .lit (.int .u8 12), .lit (.int .u8 18), .lit (.int .u8 6), .lit (.int .u8 11), .lit (.int .u8 5), .lit (.int .u8 10), .lit (.int .u8 9)]
def laid_math_bits_deBruijn64tab {H : Type} : DataW H := .agg [.lit (.int .u8 0), .lit (.int .u8 1), .lit (.int .u8 56), .lit (.int .u8 2), .lit (.int .u8 57), .lit (.int .u8 49), .lit (.int .u8 28), .lit (.int .u8 3), .lit (.int .u8 61), .lit (.int .u8 58), .lit (.int .u8 42), .lit (.int .u8 50), .lit (.int .u8 38), .lit (.int .u8 29), .lit (.int .u8 17), .lit (.int .u8 4), .lit (.int .u8 62), .lit (.int .u8 47), .lit (.int .u8 59), .lit (.int .u8 36), .lit (.int .u8 45), .lit (.int .u8 43), .lit (.int .u8 51), .lit (.int .u8 22), .lit (.int .u8 53), .lit (.int .u8 39), .lit (.int .u8 33), .lit (.int .u8 30), .lit (.int .u8 24), .lit (.int .u8 18), .lit (.int .u8 12), .lit (.int .u8 5), .lit (.int .u8 63), .lit (.int .u8 55), .lit (.int .u8 48), .lit (.int .u8 27), .lit (.int .u8 60), .lit (.int .u8 41), .lit (.int .u8 37), .lit (.int .u8 16), .lit (.int .u8 46), .lit (.int .u8 35), .lit (.int .u8 44), .lit (.int .u8 21), .lit (.int .u8 52), .lit (.int .u8 32), .lit (.int .u8 23), .lit (.int .u8 11), .lit (.int .u8 54), .lit (.int .u8 26), .lit (.int .u8 40), .lit (.int .u8 15), .lit (.int .u8 34), .lit (.int .u8 20), .lit (.int .u8 31), .lit (.int .u8 10), .lit (.int .u8 25), .lit (.int .u8 14), .lit (.int .u8 19), .lit (.int .u8 9), .lit (.int .u8 13), .lit (.int .u8 8), .lit (.int .u8 7), .lit (.int .u8 6)]
def laid_internal_strconv_uint64pow10 {H : Type} : DataW H := .agg [.lit (.int .u64 1), .lit (.int .u64 10), .lit (.int .u64 100), .lit (.int .u64 1000), .lit (.int .u64 10000), .lit (.int .u64 100000), .lit (.int .u64 1000000), .lit (.int .u64 10000000), .lit (.int .u64 100000000), .lit (.int .u64 1000000000), .lit (.int .u64 10000000000), .lit (.int .u64 100000000000), .lit (.int .u64 1000000000000), .lit (.int .u64 10000000000000), .lit (.int .u64 100000000000000), .lit (.int .u64 1000000000000000), .lit (.int .u64 10000000000000000), .lit (.int .u64 100000000000000000), .lit (.int .u64 1000000000000000000), .lit (.int .u64 10000000000000000000)]

/-- 'magnetolaw05.CurveInverses': WHATEVER THE INPUT: true; the input reads as it did. -/
def curveInversesSpec : ChangeSpec := { name := "curveInverses", fn := fun _ => fun
  | [d1, d2, d3] => { results := [.lit (.bool true)], args := [d1, d2, d3] }
  | _ => none }
def curveInversesRow : OpenClaim := { program := "ytdilhoibcbihlaadoor", sum := "ee13b7072b497ec77793a10899874a73673228e13e1de2dd94f8c929e1356e48", func := "magneto/magnetolaw05.CurveInverses", spec := "curveInverses", inPlace := ["internal/abi.NoEscape", "internal/bytealg.MakeNoZero"], unfollowed := true, recurses := true, named := ["math/bits.divideError", "math/bits.overflowError", "internal/strconv.uint64pow10", "math/bits.deBruijn32tab", "math/bits.deBruijn64tab"], apart := false, laid := [("math/bits.deBruijn32tab", laid_math_bits_deBruijn32tab), ("math/bits.deBruijn64tab", laid_math_bits_deBruijn64tab), ("internal/strconv.uint64pow10", laid_internal_strconv_uint64pow10)] }
def CurveInversesSaid : Prop := curveInversesRow.holds Tryd.pinned (OpenSpec.ofChange curveInversesSpec)

/-- ITS FALSE NEIGHBOUR: 'it returns false'. Refute it at one input. -/
def curveInversesWrong : ChangeSpec := { name := "curveInverses", fn := fun _ => fun
  | [d1, d2, d3] => { results := [.lit (.bool false)], args := [d1, d2, d3] }
  | _ => none }
def CurveInversesWrongFalsely : Prop := curveInversesRow.holds Tryd.pinned (OpenSpec.ofChange curveInversesWrong)

/-- 'magnetolaw05.CurveUndone': WHATEVER THE INPUT: true; the input reads as it did. -/
def curveUndoneSpec : ChangeSpec := { name := "curveUndone", fn := fun _ => fun
  | [d1, d2, d3] => { results := [.lit (.bool true)], args := [d1, d2, d3] }
  | _ => none }
def curveUndoneRow : OpenClaim := { program := "ytdilhoibcbihlaadoor", sum := "ee13b7072b497ec77793a10899874a73673228e13e1de2dd94f8c929e1356e48", func := "magneto/magnetolaw05.CurveUndone", spec := "curveUndone", inPlace := ["internal/abi.NoEscape", "internal/bytealg.MakeNoZero"], unfollowed := true, recurses := true, named := ["math/bits.divideError", "math/bits.overflowError", "internal/strconv.uint64pow10", "math/bits.deBruijn32tab", "math/bits.deBruijn64tab"], apart := false, laid := [("math/bits.deBruijn32tab", laid_math_bits_deBruijn32tab), ("math/bits.deBruijn64tab", laid_math_bits_deBruijn64tab), ("internal/strconv.uint64pow10", laid_internal_strconv_uint64pow10)] }
def CurveUndoneSaid : Prop := curveUndoneRow.holds Tryd.pinned (OpenSpec.ofChange curveUndoneSpec)

/-- ITS FALSE NEIGHBOUR: 'it returns false'. Refute it at one input. -/
def curveUndoneWrong : ChangeSpec := { name := "curveUndone", fn := fun _ => fun
  | [d1, d2, d3] => { results := [.lit (.bool false)], args := [d1, d2, d3] }
  | _ => none }
def CurveUndoneWrongFalsely : Prop := curveUndoneRow.holds Tryd.pinned (OpenSpec.ofChange curveUndoneWrong)

/-- 'magnetolaw05.CurveContains': WHATEVER THE INPUT: true; the input reads as it did. -/
def curveContainsSpec : ChangeSpec := { name := "curveContains", fn := fun _ => fun
  | [d1, d2, d3, d4] => { results := [.lit (.bool true)], args := [d1, d2, d3, d4] }
  | _ => none }
def curveContainsRow : OpenClaim := { program := "ytdilhoibcbihlaadoor", sum := "ee13b7072b497ec77793a10899874a73673228e13e1de2dd94f8c929e1356e48", func := "magneto/magnetolaw05.CurveContains", spec := "curveContains", inPlace := ["internal/abi.NoEscape", "internal/bytealg.MakeNoZero"], unfollowed := true, recurses := true, named := ["math/bits.divideError", "math/bits.overflowError", "internal/strconv.uint64pow10", "math/bits.deBruijn32tab", "math/bits.deBruijn64tab"], apart := false, laid := [("math/bits.deBruijn32tab", laid_math_bits_deBruijn32tab), ("math/bits.deBruijn64tab", laid_math_bits_deBruijn64tab), ("internal/strconv.uint64pow10", laid_internal_strconv_uint64pow10)] }
def CurveContainsSaid : Prop := curveContainsRow.holds Tryd.pinned (OpenSpec.ofChange curveContainsSpec)

/-- ITS FALSE NEIGHBOUR: 'it returns false'. Refute it at one input. -/
def curveContainsWrong : ChangeSpec := { name := "curveContains", fn := fun _ => fun
  | [d1, d2, d3, d4] => { results := [.lit (.bool false)], args := [d1, d2, d3, d4] }
  | _ => none }
def CurveContainsWrongFalsely : Prop := curveContainsRow.holds Tryd.pinned (OpenSpec.ofChange curveContainsWrong)

/-- 'magnetolaw05.CurveNodes': WHATEVER THE INPUT: true; the input reads as it did. -/
def curveNodesSpec : ChangeSpec := { name := "curveNodes", fn := fun _ => fun
  | [d1, d2, d3] => { results := [.lit (.bool true)], args := [d1, d2, d3] }
  | _ => none }
def curveNodesRow : OpenClaim := { program := "ytdilhoibcbihlaadoor", sum := "ee13b7072b497ec77793a10899874a73673228e13e1de2dd94f8c929e1356e48", func := "magneto/magnetolaw05.CurveNodes", spec := "curveNodes", inPlace := ["internal/abi.NoEscape", "internal/bytealg.MakeNoZero"], unfollowed := true, recurses := true, named := ["math/bits.divideError", "math/bits.overflowError", "internal/strconv.uint64pow10", "math/bits.deBruijn32tab", "math/bits.deBruijn64tab"], apart := false, laid := [("math/bits.deBruijn32tab", laid_math_bits_deBruijn32tab), ("math/bits.deBruijn64tab", laid_math_bits_deBruijn64tab), ("internal/strconv.uint64pow10", laid_internal_strconv_uint64pow10)] }
def CurveNodesSaid : Prop := curveNodesRow.holds Tryd.pinned (OpenSpec.ofChange curveNodesSpec)

/-- ITS FALSE NEIGHBOUR: 'it returns false'. Refute it at one input. -/
def curveNodesWrong : ChangeSpec := { name := "curveNodes", fn := fun _ => fun
  | [d1, d2, d3] => { results := [.lit (.bool false)], args := [d1, d2, d3] }
  | _ => none }
def CurveNodesWrongFalsely : Prop := curveNodesRow.holds Tryd.pinned (OpenSpec.ofChange curveNodesWrong)

/-- 'magnetolaw05.CurveValues': WHATEVER THE INPUT: true; the input reads as it did. -/
def curveValuesSpec : ChangeSpec := { name := "curveValues", fn := fun _ => fun
  | [d1, d2] => { results := [.lit (.bool true)], args := [d1, d2] }
  | _ => none }
def curveValuesRow : OpenClaim := { program := "ytdilhoibcbihlaadoor", sum := "ee13b7072b497ec77793a10899874a73673228e13e1de2dd94f8c929e1356e48", func := "magneto/magnetolaw05.CurveValues", spec := "curveValues", inPlace := ["internal/abi.NoEscape", "internal/bytealg.MakeNoZero"], unfollowed := true, recurses := true, named := ["math/bits.divideError", "math/bits.overflowError", "internal/strconv.uint64pow10", "math/bits.deBruijn32tab", "math/bits.deBruijn64tab"], apart := false, laid := [("math/bits.deBruijn32tab", laid_math_bits_deBruijn32tab), ("math/bits.deBruijn64tab", laid_math_bits_deBruijn64tab), ("internal/strconv.uint64pow10", laid_internal_strconv_uint64pow10)] }
def CurveValuesSaid : Prop := curveValuesRow.holds Tryd.pinned (OpenSpec.ofChange curveValuesSpec)

/-- ITS FALSE NEIGHBOUR: 'it returns false'. Refute it at one input. -/
def curveValuesWrong : ChangeSpec := { name := "curveValues", fn := fun _ => fun
  | [d1, d2] => { results := [.lit (.bool false)], args := [d1, d2] }
  | _ => none }
def CurveValuesWrongFalsely : Prop := curveValuesRow.holds Tryd.pinned (OpenSpec.ofChange curveValuesWrong)

/-- 'magnetolaw05.CurveChanges': WHATEVER THE INPUT: true; the input reads as it did. -/
def curveChangesSpec : ChangeSpec := { name := "curveChanges", fn := fun _ => fun
  | [d1, d2, d3, d4] => { results := [.lit (.bool true)], args := [d1, d2, d3, d4] }
  | _ => none }
def curveChangesRow : OpenClaim := { program := "ytdilhoibcbihlaadoor", sum := "ee13b7072b497ec77793a10899874a73673228e13e1de2dd94f8c929e1356e48", func := "magneto/magnetolaw05.CurveChanges", spec := "curveChanges", inPlace := ["internal/abi.NoEscape", "internal/bytealg.MakeNoZero"], unfollowed := true, recurses := true, named := ["math/bits.divideError", "math/bits.overflowError", "internal/strconv.uint64pow10", "math/bits.deBruijn32tab", "math/bits.deBruijn64tab"], apart := false, laid := [("math/bits.deBruijn32tab", laid_math_bits_deBruijn32tab), ("math/bits.deBruijn64tab", laid_math_bits_deBruijn64tab), ("internal/strconv.uint64pow10", laid_internal_strconv_uint64pow10)] }
def CurveChangesSaid : Prop := curveChangesRow.holds Tryd.pinned (OpenSpec.ofChange curveChangesSpec)

/-- ITS FALSE NEIGHBOUR: 'it returns false'. Refute it at one input. -/
def curveChangesWrong : ChangeSpec := { name := "curveChanges", fn := fun _ => fun
  | [d1, d2, d3, d4] => { results := [.lit (.bool false)], args := [d1, d2, d3, d4] }
  | _ => none }
def CurveChangesWrongFalsely : Prop := curveChangesRow.holds Tryd.pinned (OpenSpec.ofChange curveChangesWrong)

/-- 'magnetolaw05.CurveLinear': WHATEVER THE INPUT: true; the input reads as it did. -/
def curveLinearSpec : ChangeSpec := { name := "curveLinear", fn := fun _ => fun
  | [d1, d2, d3] => { results := [.lit (.bool true)], args := [d1, d2, d3] }
  | _ => none }
def curveLinearRow : OpenClaim := { program := "ytdilhoibcbihlaadoor", sum := "ee13b7072b497ec77793a10899874a73673228e13e1de2dd94f8c929e1356e48", func := "magneto/magnetolaw05.CurveLinear", spec := "curveLinear", inPlace := ["internal/abi.NoEscape", "internal/bytealg.MakeNoZero"], unfollowed := true, recurses := true, named := ["math/bits.divideError", "math/bits.overflowError", "internal/strconv.uint64pow10", "math/bits.deBruijn32tab", "math/bits.deBruijn64tab"], apart := false, laid := [("math/bits.deBruijn32tab", laid_math_bits_deBruijn32tab), ("math/bits.deBruijn64tab", laid_math_bits_deBruijn64tab), ("internal/strconv.uint64pow10", laid_internal_strconv_uint64pow10)] }
def CurveLinearSaid : Prop := curveLinearRow.holds Tryd.pinned (OpenSpec.ofChange curveLinearSpec)

/-- ITS FALSE NEIGHBOUR: 'it returns false'. Refute it at one input. -/
def curveLinearWrong : ChangeSpec := { name := "curveLinear", fn := fun _ => fun
  | [d1, d2, d3] => { results := [.lit (.bool false)], args := [d1, d2, d3] }
  | _ => none }
def CurveLinearWrongFalsely : Prop := curveLinearRow.holds Tryd.pinned (OpenSpec.ofChange curveLinearWrong)

/- THE SECOND FORM. 'bulk': how many values and letters a reading holds, each counted each time it is reached (what is shared counts as often as it is met; a slice's spare places count too). A statement '..UptoSaid' is the law's where the arguments, and the package variables that the reading takes, are together of bulk at most 1048576: NARROWER than '..Said'. Prove '..Said' where nothing that the law and all that it calls make is longer than what came in: it says more and counts as full. Else prove '..UptoSaid'. A law counts once. -/
mutual
def uptoBulk {H : Type} : DataW H → Nat
  | .lit (.string bytes) => bytes.length + 1
  | .lit _ => 1
  | .nil => 1
  | .ptr d => uptoBulk d + 1
  | .slice elems spare => uptoBulkAll elems + uptoBulkAll spare + 1
  | .agg parts => uptoBulkAll parts + 1
  | .iface _ d => uptoBulk d + 1
  | .map entries => uptoBulkEntries entries + 1
  | .held _ => 1
def uptoBulkAll {H : Type} : List (DataW H) → Nat
  | [] => 0
  | d :: r => uptoBulk d + uptoBulkAll r
def uptoBulkEntries {H : Type} : List (Lit × DataW H) → Nat
  | [] => 0
  | x :: r => uptoBulkEntry x + uptoBulkEntries r
def uptoBulkEntry {H : Type} : Lit × DataW H → Nat
  | (.string bytes, d) => bytes.length + uptoBulk d + 1
  | (_, d) => uptoBulk d + 1
 end
def uptoSmall : (H : Type) → List (DataW H) → Bool := fun _ ds => decide (uptoBulkAll ds ≤ 1048576)
def OpenSpec.upto (s : _root_.Go.ChangeSpec) : _root_.Go.OpenSpec := { _root_.Go.OpenSpec.ofChange s with cond := some uptoSmall }

/-- 'magnetolaw05.CurveInverses', WHERE WHAT IT READS IS OF BULK AT MOST 1048576: true; the input reads as it did. -/
def curveInversesUptoRow : OpenClaim := { program := "ytdilhoibcbihlaadoor", sum := "ee13b7072b497ec77793a10899874a73673228e13e1de2dd94f8c929e1356e48", func := "magneto/magnetolaw05.CurveInverses", spec := "curveInverses", inPlace := ["internal/abi.NoEscape", "internal/bytealg.MakeNoZero"], unfollowed := true, recurses := true, named := ["math/bits.divideError", "math/bits.overflowError", "internal/strconv.uint64pow10", "math/bits.deBruijn32tab", "math/bits.deBruijn64tab"], apart := false, laid := [("math/bits.deBruijn32tab", laid_math_bits_deBruijn32tab), ("math/bits.deBruijn64tab", laid_math_bits_deBruijn64tab), ("internal/strconv.uint64pow10", laid_internal_strconv_uint64pow10)], narrowed := true }
def CurveInversesUptoSaid : Prop := curveInversesUptoRow.holds Tryd.pinned (OpenSpec.upto curveInversesSpec)

/-- 'magnetolaw05.CurveUndone', WHERE WHAT IT READS IS OF BULK AT MOST 1048576: true; the input reads as it did. -/
def curveUndoneUptoRow : OpenClaim := { program := "ytdilhoibcbihlaadoor", sum := "ee13b7072b497ec77793a10899874a73673228e13e1de2dd94f8c929e1356e48", func := "magneto/magnetolaw05.CurveUndone", spec := "curveUndone", inPlace := ["internal/abi.NoEscape", "internal/bytealg.MakeNoZero"], unfollowed := true, recurses := true, named := ["math/bits.divideError", "math/bits.overflowError", "internal/strconv.uint64pow10", "math/bits.deBruijn32tab", "math/bits.deBruijn64tab"], apart := false, laid := [("math/bits.deBruijn32tab", laid_math_bits_deBruijn32tab), ("math/bits.deBruijn64tab", laid_math_bits_deBruijn64tab), ("internal/strconv.uint64pow10", laid_internal_strconv_uint64pow10)], narrowed := true }
def CurveUndoneUptoSaid : Prop := curveUndoneUptoRow.holds Tryd.pinned (OpenSpec.upto curveUndoneSpec)

/-- 'magnetolaw05.CurveContains', WHERE WHAT IT READS IS OF BULK AT MOST 1048576: true; the input reads as it did. -/
def curveContainsUptoRow : OpenClaim := { program := "ytdilhoibcbihlaadoor", sum := "ee13b7072b497ec77793a10899874a73673228e13e1de2dd94f8c929e1356e48", func := "magneto/magnetolaw05.CurveContains", spec := "curveContains", inPlace := ["internal/abi.NoEscape", "internal/bytealg.MakeNoZero"], unfollowed := true, recurses := true, named := ["math/bits.divideError", "math/bits.overflowError", "internal/strconv.uint64pow10", "math/bits.deBruijn32tab", "math/bits.deBruijn64tab"], apart := false, laid := [("math/bits.deBruijn32tab", laid_math_bits_deBruijn32tab), ("math/bits.deBruijn64tab", laid_math_bits_deBruijn64tab), ("internal/strconv.uint64pow10", laid_internal_strconv_uint64pow10)], narrowed := true }
def CurveContainsUptoSaid : Prop := curveContainsUptoRow.holds Tryd.pinned (OpenSpec.upto curveContainsSpec)

/-- 'magnetolaw05.CurveNodes', WHERE WHAT IT READS IS OF BULK AT MOST 1048576: true; the input reads as it did. -/
def curveNodesUptoRow : OpenClaim := { program := "ytdilhoibcbihlaadoor", sum := "ee13b7072b497ec77793a10899874a73673228e13e1de2dd94f8c929e1356e48", func := "magneto/magnetolaw05.CurveNodes", spec := "curveNodes", inPlace := ["internal/abi.NoEscape", "internal/bytealg.MakeNoZero"], unfollowed := true, recurses := true, named := ["math/bits.divideError", "math/bits.overflowError", "internal/strconv.uint64pow10", "math/bits.deBruijn32tab", "math/bits.deBruijn64tab"], apart := false, laid := [("math/bits.deBruijn32tab", laid_math_bits_deBruijn32tab), ("math/bits.deBruijn64tab", laid_math_bits_deBruijn64tab), ("internal/strconv.uint64pow10", laid_internal_strconv_uint64pow10)], narrowed := true }
def CurveNodesUptoSaid : Prop := curveNodesUptoRow.holds Tryd.pinned (OpenSpec.upto curveNodesSpec)

/-- 'magnetolaw05.CurveValues', WHERE WHAT IT READS IS OF BULK AT MOST 1048576: true; the input reads as it did. -/
def curveValuesUptoRow : OpenClaim := { program := "ytdilhoibcbihlaadoor", sum := "ee13b7072b497ec77793a10899874a73673228e13e1de2dd94f8c929e1356e48", func := "magneto/magnetolaw05.CurveValues", spec := "curveValues", inPlace := ["internal/abi.NoEscape", "internal/bytealg.MakeNoZero"], unfollowed := true, recurses := true, named := ["math/bits.divideError", "math/bits.overflowError", "internal/strconv.uint64pow10", "math/bits.deBruijn32tab", "math/bits.deBruijn64tab"], apart := false, laid := [("math/bits.deBruijn32tab", laid_math_bits_deBruijn32tab), ("math/bits.deBruijn64tab", laid_math_bits_deBruijn64tab), ("internal/strconv.uint64pow10", laid_internal_strconv_uint64pow10)], narrowed := true }
def CurveValuesUptoSaid : Prop := curveValuesUptoRow.holds Tryd.pinned (OpenSpec.upto curveValuesSpec)

/-- 'magnetolaw05.CurveChanges', WHERE WHAT IT READS IS OF BULK AT MOST 1048576: true; the input reads as it did. -/
def curveChangesUptoRow : OpenClaim := { program := "ytdilhoibcbihlaadoor", sum := "ee13b7072b497ec77793a10899874a73673228e13e1de2dd94f8c929e1356e48", func := "magneto/magnetolaw05.CurveChanges", spec := "curveChanges", inPlace := ["internal/abi.NoEscape", "internal/bytealg.MakeNoZero"], unfollowed := true, recurses := true, named := ["math/bits.divideError", "math/bits.overflowError", "internal/strconv.uint64pow10", "math/bits.deBruijn32tab", "math/bits.deBruijn64tab"], apart := false, laid := [("math/bits.deBruijn32tab", laid_math_bits_deBruijn32tab), ("math/bits.deBruijn64tab", laid_math_bits_deBruijn64tab), ("internal/strconv.uint64pow10", laid_internal_strconv_uint64pow10)], narrowed := true }
def CurveChangesUptoSaid : Prop := curveChangesUptoRow.holds Tryd.pinned (OpenSpec.upto curveChangesSpec)

/-- 'magnetolaw05.CurveLinear', WHERE WHAT IT READS IS OF BULK AT MOST 1048576: true; the input reads as it did. -/
def curveLinearUptoRow : OpenClaim := { program := "ytdilhoibcbihlaadoor", sum := "ee13b7072b497ec77793a10899874a73673228e13e1de2dd94f8c929e1356e48", func := "magneto/magnetolaw05.CurveLinear", spec := "curveLinear", inPlace := ["internal/abi.NoEscape", "internal/bytealg.MakeNoZero"], unfollowed := true, recurses := true, named := ["math/bits.divideError", "math/bits.overflowError", "internal/strconv.uint64pow10", "math/bits.deBruijn32tab", "math/bits.deBruijn64tab"], apart := false, laid := [("math/bits.deBruijn32tab", laid_math_bits_deBruijn32tab), ("math/bits.deBruijn64tab", laid_math_bits_deBruijn64tab), ("internal/strconv.uint64pow10", laid_internal_strconv_uint64pow10)], narrowed := true }
def CurveLinearUptoSaid : Prop := curveLinearUptoRow.holds Tryd.pinned (OpenSpec.upto curveLinearSpec)

end Rows
end Go.Proofs.YtdilhoibcbihlaaDoor
