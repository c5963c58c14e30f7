/-
  No cell of these rows narrows 'for every input' (looked for: loops, veiled, ifaces, maps, wideKeys, modest, calm, conditions, laid).
  DERIVED. THE GIVEN ROWS OF THIS SEAT. 6 by the template 'for every input the law returns true; each argument reads behind the call as it read before'; 0 by the template 'total and deterministic' (their statements: YtbbpgidmadlgmaaTotals.lean).
  GIVEN WITH THE SEED: the statements are not yours to turn. If you find one false, say at which input.
  Laid BY PROGRAM, IN A SANDBOX (cutbox-rows.mjs): the forced cells as the released guide's own fill.sh prints them over the translation f37baa396ae4af79… (all of the seat's roots in one cut). By AI agents, Wed Nov 11 2026. No macro, syntax, notation, axiom, sorry.
-/
import Derived.Test.YtbbpgidmadlgmaaChecked
import GoSem.Claim
import GoSem.ClaimJoined
import GoSem.ClaimMapViews
import Derived.JoinedTies
import Derived.KernelRfl
namespace Go.Proofs.Ytbbpgidmadlgmaa
/- THE CELL 'sum', in the pinned program and in every row, IS THE sha256 OF THE DUMP (.gsa) THAT YtbbpgidmadlgmaaProg.lean LOADS. Nothing in Lean hashes anything: it is a label: what it is worth is what the hold of that sum in a sandbox is worth. -/
noncomputable def Try.pinned : Pinned := { name := "ytbbpgidmadlgmaa", sum := "f37baa396ae4af79d0cc36c28f1e47eadb5c326ef3f5a1d34e88599d2a991ff5", checked := Try.checked }
namespace Rows
def none {H : Type} : Left H := { results := [], args := [] }

/-- 'magnetolaw08.ChartRuns': WHATEVER THE INPUT: true; the input reads as it did. -/
def chartRunsSpec : ChangeSpec := { name := "chartRuns", fn := fun _ => fun
  | [d1, d2] => { results := [.lit (.bool true)], args := [d1, d2] }
  | _ => none }
def chartRunsRow : OpenClaim := { program := "ytbbpgidmadlgmaa", sum := "f37baa396ae4af79d0cc36c28f1e47eadb5c326ef3f5a1d34e88599d2a991ff5", func := "magneto/magnetolaw08.ChartRuns", spec := "chartRuns", unfollowed := true, recurses := true, plainKeys := false, apart := false }
def ChartRunsSaid : Prop := chartRunsRow.holds Try.pinned (OpenSpec.ofChange chartRunsSpec)

/-- ITS FALSE NEIGHBOUR: 'it returns false'. Refute it at one input. -/
def chartRunsWrong : ChangeSpec := { name := "chartRuns", fn := fun _ => fun
  | [d1, d2] => { results := [.lit (.bool false)], args := [d1, d2] }
  | _ => none }
def ChartRunsWrongFalsely : Prop := chartRunsRow.holds Try.pinned (OpenSpec.ofChange chartRunsWrong)

/-- 'magnetolaw08.ChartAges': WHATEVER THE INPUT: true; the input reads as it did. -/
def chartAgesSpec : ChangeSpec := { name := "chartAges", fn := fun _ => fun
  | [d1, d2, d3] => { results := [.lit (.bool true)], args := [d1, d2, d3] }
  | _ => none }
def chartAgesRow : OpenClaim := { program := "ytbbpgidmadlgmaa", sum := "f37baa396ae4af79d0cc36c28f1e47eadb5c326ef3f5a1d34e88599d2a991ff5", func := "magneto/magnetolaw08.ChartAges", spec := "chartAges", unfollowed := true, recurses := true, plainKeys := false, apart := false }
def ChartAgesSaid : Prop := chartAgesRow.holds Try.pinned (OpenSpec.ofChange chartAgesSpec)

/-- ITS FALSE NEIGHBOUR: 'it returns false'. Refute it at one input. -/
def chartAgesWrong : ChangeSpec := { name := "chartAges", fn := fun _ => fun
  | [d1, d2, d3] => { results := [.lit (.bool false)], args := [d1, d2, d3] }
  | _ => none }
def ChartAgesWrongFalsely : Prop := chartAgesRow.holds Try.pinned (OpenSpec.ofChange chartAgesWrong)

/-- 'magnetolaw08.ChartSteps': WHATEVER THE INPUT: true; the input reads as it did. -/
def chartStepsSpec : ChangeSpec := { name := "chartSteps", fn := fun _ => fun
  | [d1, d2, d3] => { results := [.lit (.bool true)], args := [d1, d2, d3] }
  | _ => none }
def chartStepsRow : OpenClaim := { program := "ytbbpgidmadlgmaa", sum := "f37baa396ae4af79d0cc36c28f1e47eadb5c326ef3f5a1d34e88599d2a991ff5", func := "magneto/magnetolaw08.ChartSteps", spec := "chartSteps", unfollowed := true, recurses := true, plainKeys := false, apart := false }
def ChartStepsSaid : Prop := chartStepsRow.holds Try.pinned (OpenSpec.ofChange chartStepsSpec)

/-- ITS FALSE NEIGHBOUR: 'it returns false'. Refute it at one input. -/
def chartStepsWrong : ChangeSpec := { name := "chartSteps", fn := fun _ => fun
  | [d1, d2, d3] => { results := [.lit (.bool false)], args := [d1, d2, d3] }
  | _ => none }
def ChartStepsWrongFalsely : Prop := chartStepsRow.holds Try.pinned (OpenSpec.ofChange chartStepsWrong)

/-- 'magnetolaw08.ChartJoins': WHATEVER THE INPUT: true; the input reads as it did. -/
def chartJoinsSpec : ChangeSpec := { name := "chartJoins", fn := fun _ => fun
  | [d1, d2, d3] => { results := [.lit (.bool true)], args := [d1, d2, d3] }
  | _ => none }
def chartJoinsRow : OpenClaim := { program := "ytbbpgidmadlgmaa", sum := "f37baa396ae4af79d0cc36c28f1e47eadb5c326ef3f5a1d34e88599d2a991ff5", func := "magneto/magnetolaw08.ChartJoins", spec := "chartJoins", unfollowed := true, recurses := true, plainKeys := false, apart := false }
def ChartJoinsSaid : Prop := chartJoinsRow.holds Try.pinned (OpenSpec.ofChange chartJoinsSpec)

/-- ITS FALSE NEIGHBOUR: 'it returns false'. Refute it at one input. -/
def chartJoinsWrong : ChangeSpec := { name := "chartJoins", fn := fun _ => fun
  | [d1, d2, d3] => { results := [.lit (.bool false)], args := [d1, d2, d3] }
  | _ => none }
def ChartJoinsWrongFalsely : Prop := chartJoinsRow.holds Try.pinned (OpenSpec.ofChange chartJoinsWrong)

/-- 'magnetolaw08.ChartExplores': WHATEVER THE INPUT: true; the input reads as it did. -/
def chartExploresSpec : ChangeSpec := { name := "chartExplores", fn := fun _ => fun
  | [d] => { results := [.lit (.bool true)], args := [d] }
  | _ => none }
def chartExploresRow : OpenClaim := { program := "ytbbpgidmadlgmaa", sum := "f37baa396ae4af79d0cc36c28f1e47eadb5c326ef3f5a1d34e88599d2a991ff5", func := "magneto/magnetolaw08.ChartExplores", spec := "chartExplores", unfollowed := true, recurses := true, plainKeys := false, apart := false }
def ChartExploresSaid : Prop := chartExploresRow.holds Try.pinned (OpenSpec.ofChange chartExploresSpec)

/-- ITS FALSE NEIGHBOUR: 'it returns false'. Refute it at one input. -/
def chartExploresWrong : ChangeSpec := { name := "chartExplores", fn := fun _ => fun
  | [d] => { results := [.lit (.bool false)], args := [d] }
  | _ => none }
def ChartExploresWrongFalsely : Prop := chartExploresRow.holds Try.pinned (OpenSpec.ofChange chartExploresWrong)

/-- 'magnetolaw08.ChartDead': WHATEVER THE INPUT: true; the input reads as it did. -/
def chartDeadSpec : ChangeSpec := { name := "chartDead", fn := fun _ => fun
  | [d1, d2, d3] => { results := [.lit (.bool true)], args := [d1, d2, d3] }
  | _ => none }
def chartDeadRow : OpenClaim := { program := "ytbbpgidmadlgmaa", sum := "f37baa396ae4af79d0cc36c28f1e47eadb5c326ef3f5a1d34e88599d2a991ff5", func := "magneto/magnetolaw08.ChartDead", spec := "chartDead", unfollowed := true, recurses := true, plainKeys := false, apart := false }
def ChartDeadSaid : Prop := chartDeadRow.holds Try.pinned (OpenSpec.ofChange chartDeadSpec)

/-- ITS FALSE NEIGHBOUR: 'it returns false'. Refute it at one input. -/
def chartDeadWrong : ChangeSpec := { name := "chartDead", fn := fun _ => fun
  | [d1, d2, d3] => { results := [.lit (.bool false)], args := [d1, d2, d3] }
  | _ => none }
def ChartDeadWrongFalsely : Prop := chartDeadRow.holds Try.pinned (OpenSpec.ofChange chartDeadWrong)

/- THE SECOND FORM. 'bulk': how many values and letters a reading holds, each counted each time it is reached (what is shared counts as often as it is met; a slice's spare places count too). A statement '..UptoSaid' is the law's where the arguments, and the package variables that the reading takes, are together of bulk at most 1048576: NARROWER than '..Said'. Prove '..Said' where nothing that the law and all that it calls make is longer than what came in: it says more and counts as full. Else prove '..UptoSaid'. A law counts once. -/
mutual
def uptoBulk {H : Type} : DataW H → Nat
  | .lit (.string bytes) => bytes.length + 1
  | .lit _ => 1
  | .nil => 1
  | .ptr d => uptoBulk d + 1
  | .slice elems spare => uptoBulkAll elems + uptoBulkAll spare + 1
  | .agg parts => uptoBulkAll parts + 1
  | .iface _ d => uptoBulk d + 1
  | .map entries => uptoBulkEntries entries + 1
  | .held _ => 1
def uptoBulkAll {H : Type} : List (DataW H) → Nat
  | [] => 0
  | d :: r => uptoBulk d + uptoBulkAll r
def uptoBulkEntries {H : Type} : List (Lit × DataW H) → Nat
  | [] => 0
  | x :: r => uptoBulkEntry x + uptoBulkEntries r
def uptoBulkEntry {H : Type} : Lit × DataW H → Nat
  | (.string bytes, d) => bytes.length + uptoBulk d + 1
  | (_, d) => uptoBulk d + 1
 end
def uptoSmall : (H : Type) → List (DataW H) → Bool := fun _ ds => decide (uptoBulkAll ds ≤ 1048576)
def OpenSpec.upto (s : _root_.Go.ChangeSpec) : _root_.Go.OpenSpec := { _root_.Go.OpenSpec.ofChange s with cond := some uptoSmall }

/-- 'magnetolaw08.ChartRuns', WHERE WHAT IT READS IS OF BULK AT MOST 1048576: true; the input reads as it did. -/
def chartRunsUptoRow : OpenClaim := { program := "ytbbpgidmadlgmaa", sum := "f37baa396ae4af79d0cc36c28f1e47eadb5c326ef3f5a1d34e88599d2a991ff5", func := "magneto/magnetolaw08.ChartRuns", spec := "chartRuns", unfollowed := true, recurses := true, plainKeys := false, apart := false, narrowed := true }
def ChartRunsUptoSaid : Prop := chartRunsUptoRow.holds Try.pinned (OpenSpec.upto chartRunsSpec)

/-- 'magnetolaw08.ChartAges', WHERE WHAT IT READS IS OF BULK AT MOST 1048576: true; the input reads as it did. -/
def chartAgesUptoRow : OpenClaim := { program := "ytbbpgidmadlgmaa", sum := "f37baa396ae4af79d0cc36c28f1e47eadb5c326ef3f5a1d34e88599d2a991ff5", func := "magneto/magnetolaw08.ChartAges", spec := "chartAges", unfollowed := true, recurses := true, plainKeys := false, apart := false, narrowed := true }
def ChartAgesUptoSaid : Prop := chartAgesUptoRow.holds Try.pinned (OpenSpec.upto chartAgesSpec)

/-- 'magnetolaw08.ChartSteps', WHERE WHAT IT READS IS OF BULK AT MOST 1048576: true; the input reads as it did. -/
def chartStepsUptoRow : OpenClaim := { program := "ytbbpgidmadlgmaa", sum := "f37baa396ae4af79d0cc36c28f1e47eadb5c326ef3f5a1d34e88599d2a991ff5", func := "magneto/magnetolaw08.ChartSteps", spec := "chartSteps", unfollowed := true, recurses := true, plainKeys := false, apart := false, narrowed := true }
def ChartStepsUptoSaid : Prop := chartStepsUptoRow.holds Try.pinned (OpenSpec.upto chartStepsSpec)

/-- 'magnetolaw08.ChartJoins', WHERE WHAT IT READS IS OF BULK AT MOST 1048576: true; the input reads as it did. -/
def chartJoinsUptoRow : OpenClaim := { program := "ytbbpgidmadlgmaa", sum := "f37baa396ae4af79d0cc36c28f1e47eadb5c326ef3f5a1d34e88599d2a991ff5", func := "magneto/magnetolaw08.ChartJoins", spec := "chartJoins", unfollowed := true, recurses := true, plainKeys := false, apart := false, narrowed := true }
def ChartJoinsUptoSaid : Prop := chartJoinsUptoRow.holds Try.pinned (OpenSpec.upto chartJoinsSpec)

/-- 'magnetolaw08.ChartExplores', WHERE WHAT IT READS IS OF BULK AT MOST 1048576: true; the input reads as it did. -/
def chartExploresUptoRow : OpenClaim := { program := "ytbbpgidmadlgmaa", sum := "f37baa396ae4af79d0cc36c28f1e47eadb5c326ef3f5a1d34e88599d2a991ff5", func := "magneto/magnetolaw08.ChartExplores", spec := "chartExplores", unfollowed := true, recurses := true, plainKeys := false, apart := false, narrowed := true }
def ChartExploresUptoSaid : Prop := chartExploresUptoRow.holds Try.pinned (OpenSpec.upto chartExploresSpec)

/-- 'magnetolaw08.ChartDead', WHERE WHAT IT READS IS OF BULK AT MOST 1048576: true; the input reads as it did. -/
def chartDeadUptoRow : OpenClaim := { program := "ytbbpgidmadlgmaa", sum := "f37baa396ae4af79d0cc36c28f1e47eadb5c326ef3f5a1d34e88599d2a991ff5", func := "magneto/magnetolaw08.ChartDead", spec := "chartDead", unfollowed := true, recurses := true, plainKeys := false, apart := false, narrowed := true }
def ChartDeadUptoSaid : Prop := chartDeadUptoRow.holds Try.pinned (OpenSpec.upto chartDeadSpec)

end Rows
end Go.Proofs.Ytbbpgidmadlgmaa
