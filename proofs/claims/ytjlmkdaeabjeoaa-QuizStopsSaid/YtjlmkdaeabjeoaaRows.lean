/-
  No cell of these rows narrows 'for every input' (looked for: loops, veiled, ifaces, maps, wideKeys, modest, calm, conditions, laid).
  DERIVED. THE GIVEN ROWS OF THIS SEAT. 6 by the template 'for every input the law returns true; each argument reads behind the call as it read before'; 0 by the template 'total and deterministic' (their statements: YtjlmkdaeabjeoaaTotals.lean).
  GIVEN WITH THE SEED: the statements are not yours to turn. If you find one false, say at which input.
  Laid BY PROGRAM, IN A SANDBOX (cutbox-rows.mjs): the forced cells as the released guide's own fill.sh prints them over the translation d274bf0cc79cb529… (all of the seat's roots in one cut). By AI agents, Wed Nov 11 2026. No macro, syntax, notation, axiom, sorry.
-/
import Derived.Test.YtjlmkdaeabjeoaaChecked
import GoSem.Claim
import GoSem.ClaimJoined
import GoSem.ClaimMapViews
import Derived.JoinedTies
import Derived.KernelRfl
namespace Go.Proofs.Ytjlmkdaeabjeoaa
/- THE CELL 'sum', in the pinned program and in every row, IS THE sha256 OF THE DUMP (.gsa) THAT YtjlmkdaeabjeoaaProg.lean LOADS. Nothing in Lean hashes anything: it is a label: what it is worth is what the hold of that sum in a sandbox is worth. -/
noncomputable def Try.pinned : Pinned := { name := "ytjlmkdaeabjeoaa", sum := "d274bf0cc79cb529d511119e4bfee2a6bcc5555b6a29eca98b7698460b022b40", checked := Try.checked }
namespace Rows
def none {H : Type} : Left H := { results := [], args := [] }

/-- 'magnetolaw40.QuizDiffers': WHATEVER THE INPUT: true; the input reads as it did. -/
def quizDiffersSpec : ChangeSpec := { name := "quizDiffers", fn := fun _ => fun
  | [d1, d2, d3, d4, d5] => { results := [.lit (.bool true)], args := [d1, d2, d3, d4, d5] }
  | _ => none }
def quizDiffersRow : OpenClaim := { program := "ytjlmkdaeabjeoaa", sum := "d274bf0cc79cb529d511119e4bfee2a6bcc5555b6a29eca98b7698460b022b40", func := "magneto/magnetolaw40.QuizDiffers", spec := "quizDiffers", unfollowed := true, recurses := true, apart := false }
def QuizDiffersSaid : Prop := quizDiffersRow.holds Try.pinned (OpenSpec.ofChange quizDiffersSpec)

/-- ITS FALSE NEIGHBOUR: 'it returns false'. Refute it at one input. -/
def quizDiffersWrong : ChangeSpec := { name := "quizDiffers", fn := fun _ => fun
  | [d1, d2, d3, d4, d5] => { results := [.lit (.bool false)], args := [d1, d2, d3, d4, d5] }
  | _ => none }
def QuizDiffersWrongFalsely : Prop := quizDiffersRow.holds Try.pinned (OpenSpec.ofChange quizDiffersWrong)

/-- 'magnetolaw40.QuizAnswers': WHATEVER THE INPUT: true; the input reads as it did. -/
def quizAnswersSpec : ChangeSpec := { name := "quizAnswers", fn := fun _ => fun
  | [d1, d2] => { results := [.lit (.bool true)], args := [d1, d2] }
  | _ => none }
def quizAnswersRow : OpenClaim := { program := "ytjlmkdaeabjeoaa", sum := "d274bf0cc79cb529d511119e4bfee2a6bcc5555b6a29eca98b7698460b022b40", func := "magneto/magnetolaw40.QuizAnswers", spec := "quizAnswers", unfollowed := true, recurses := true, apart := false }
def QuizAnswersSaid : Prop := quizAnswersRow.holds Try.pinned (OpenSpec.ofChange quizAnswersSpec)

/-- ITS FALSE NEIGHBOUR: 'it returns false'. Refute it at one input. -/
def quizAnswersWrong : ChangeSpec := { name := "quizAnswers", fn := fun _ => fun
  | [d1, d2] => { results := [.lit (.bool false)], args := [d1, d2] }
  | _ => none }
def QuizAnswersWrongFalsely : Prop := quizAnswersRow.holds Try.pinned (OpenSpec.ofChange quizAnswersWrong)

/-- 'magnetolaw40.QuizSteps': WHATEVER THE INPUT: true; the input reads as it did. -/
def quizStepsSpec : ChangeSpec := { name := "quizSteps", fn := fun _ => fun
  | [d1, d2, d3, d4] => { results := [.lit (.bool true)], args := [d1, d2, d3, d4] }
  | _ => none }
def quizStepsRow : OpenClaim := { program := "ytjlmkdaeabjeoaa", sum := "d274bf0cc79cb529d511119e4bfee2a6bcc5555b6a29eca98b7698460b022b40", func := "magneto/magnetolaw40.QuizSteps", spec := "quizSteps", unfollowed := true, recurses := true, apart := false }
def QuizStepsSaid : Prop := quizStepsRow.holds Try.pinned (OpenSpec.ofChange quizStepsSpec)

/-- ITS FALSE NEIGHBOUR: 'it returns false'. Refute it at one input. -/
def quizStepsWrong : ChangeSpec := { name := "quizSteps", fn := fun _ => fun
  | [d1, d2, d3, d4] => { results := [.lit (.bool false)], args := [d1, d2, d3, d4] }
  | _ => none }
def QuizStepsWrongFalsely : Prop := quizStepsRow.holds Try.pinned (OpenSpec.ofChange quizStepsWrong)

/-- 'magnetolaw40.QuizHonest': WHATEVER THE INPUT: true; the input reads as it did. -/
def quizHonestSpec : ChangeSpec := { name := "quizHonest", fn := fun _ => fun
  | [d1, d2, d3] => { results := [.lit (.bool true)], args := [d1, d2, d3] }
  | _ => none }
def quizHonestRow : OpenClaim := { program := "ytjlmkdaeabjeoaa", sum := "d274bf0cc79cb529d511119e4bfee2a6bcc5555b6a29eca98b7698460b022b40", func := "magneto/magnetolaw40.QuizHonest", spec := "quizHonest", unfollowed := true, recurses := true, apart := false }
def QuizHonestSaid : Prop := quizHonestRow.holds Try.pinned (OpenSpec.ofChange quizHonestSpec)

/-- ITS FALSE NEIGHBOUR: 'it returns false'. Refute it at one input. -/
def quizHonestWrong : ChangeSpec := { name := "quizHonest", fn := fun _ => fun
  | [d1, d2, d3] => { results := [.lit (.bool false)], args := [d1, d2, d3] }
  | _ => none }
def QuizHonestWrongFalsely : Prop := quizHonestRow.holds Try.pinned (OpenSpec.ofChange quizHonestWrong)

/-- 'magnetolaw40.QuizStops': WHATEVER THE INPUT: true; the input reads as it did. -/
def quizStopsSpec : ChangeSpec := { name := "quizStops", fn := fun _ => fun
  | [d1, d2, d3, d4] => { results := [.lit (.bool true)], args := [d1, d2, d3, d4] }
  | _ => none }
def quizStopsRow : OpenClaim := { program := "ytjlmkdaeabjeoaa", sum := "d274bf0cc79cb529d511119e4bfee2a6bcc5555b6a29eca98b7698460b022b40", func := "magneto/magnetolaw40.QuizStops", spec := "quizStops", unfollowed := true, recurses := true, apart := false }
def QuizStopsSaid : Prop := quizStopsRow.holds Try.pinned (OpenSpec.ofChange quizStopsSpec)

/-- ITS FALSE NEIGHBOUR: 'it returns false'. Refute it at one input. -/
def quizStopsWrong : ChangeSpec := { name := "quizStops", fn := fun _ => fun
  | [d1, d2, d3, d4] => { results := [.lit (.bool false)], args := [d1, d2, d3, d4] }
  | _ => none }
def QuizStopsWrongFalsely : Prop := quizStopsRow.holds Try.pinned (OpenSpec.ofChange quizStopsWrong)

/-- 'magnetolaw40.QuizScripts': WHATEVER THE INPUT: true; the input reads as it did. -/
def quizScriptsSpec : ChangeSpec := { name := "quizScripts", fn := fun _ => fun
  | [d1, d2] => { results := [.lit (.bool true)], args := [d1, d2] }
  | _ => none }
def quizScriptsRow : OpenClaim := { program := "ytjlmkdaeabjeoaa", sum := "d274bf0cc79cb529d511119e4bfee2a6bcc5555b6a29eca98b7698460b022b40", func := "magneto/magnetolaw40.QuizScripts", spec := "quizScripts", unfollowed := true, recurses := true, apart := false }
def QuizScriptsSaid : Prop := quizScriptsRow.holds Try.pinned (OpenSpec.ofChange quizScriptsSpec)

/-- ITS FALSE NEIGHBOUR: 'it returns false'. Refute it at one input. -/
def quizScriptsWrong : ChangeSpec := { name := "quizScripts", fn := fun _ => fun
  | [d1, d2] => { results := [.lit (.bool false)], args := [d1, d2] }
  | _ => none }
def QuizScriptsWrongFalsely : Prop := quizScriptsRow.holds Try.pinned (OpenSpec.ofChange quizScriptsWrong)

/- THE SECOND FORM. 'bulk': how many values and letters a reading holds, each counted each time it is reached (what is shared counts as often as it is met; a slice's spare places count too). A statement '..UptoSaid' is the law's where the arguments, and the package variables that the reading takes, are together of bulk at most 1048576: NARROWER than '..Said'. Prove '..Said' where nothing that the law and all that it calls make is longer than what came in: it says more and counts as full. Else prove '..UptoSaid'. A law counts once. -/
mutual
def uptoBulk {H : Type} : DataW H → Nat
  | .lit (.string bytes) => bytes.length + 1
  | .lit _ => 1
  | .nil => 1
  | .ptr d => uptoBulk d + 1
  | .slice elems spare => uptoBulkAll elems + uptoBulkAll spare + 1
  | .agg parts => uptoBulkAll parts + 1
  | .iface _ d => uptoBulk d + 1
  | .map entries => uptoBulkEntries entries + 1
  | .held _ => 1
def uptoBulkAll {H : Type} : List (DataW H) → Nat
  | [] => 0
  | d :: r => uptoBulk d + uptoBulkAll r
def uptoBulkEntries {H : Type} : List (Lit × DataW H) → Nat
  | [] => 0
  | x :: r => uptoBulkEntry x + uptoBulkEntries r
def uptoBulkEntry {H : Type} : Lit × DataW H → Nat
  | (.string bytes, d) => bytes.length + uptoBulk d + 1
  | (_, d) => uptoBulk d + 1
 end
def uptoSmall : (H : Type) → List (DataW H) → Bool := fun _ ds => decide (uptoBulkAll ds ≤ 1048576)
def OpenSpec.upto (s : _root_.Go.ChangeSpec) : _root_.Go.OpenSpec := { _root_.Go.OpenSpec.ofChange s with cond := some uptoSmall }

/-- 'magnetolaw40.QuizDiffers', WHERE WHAT IT READS IS OF BULK AT MOST 1048576: true; the input reads as it did. -/
def quizDiffersUptoRow : OpenClaim := { program := "ytjlmkdaeabjeoaa", sum := "d274bf0cc79cb529d511119e4bfee2a6bcc5555b6a29eca98b7698460b022b40", func := "magneto/magnetolaw40.QuizDiffers", spec := "quizDiffers", unfollowed := true, recurses := true, apart := false, narrowed := true }
def QuizDiffersUptoSaid : Prop := quizDiffersUptoRow.holds Try.pinned (OpenSpec.upto quizDiffersSpec)

/-- 'magnetolaw40.QuizAnswers', WHERE WHAT IT READS IS OF BULK AT MOST 1048576: true; the input reads as it did. -/
def quizAnswersUptoRow : OpenClaim := { program := "ytjlmkdaeabjeoaa", sum := "d274bf0cc79cb529d511119e4bfee2a6bcc5555b6a29eca98b7698460b022b40", func := "magneto/magnetolaw40.QuizAnswers", spec := "quizAnswers", unfollowed := true, recurses := true, apart := false, narrowed := true }
def QuizAnswersUptoSaid : Prop := quizAnswersUptoRow.holds Try.pinned (OpenSpec.upto quizAnswersSpec)

/-- 'magnetolaw40.QuizSteps', WHERE WHAT IT READS IS OF BULK AT MOST 1048576: true; the input reads as it did. -/
def quizStepsUptoRow : OpenClaim := { program := "ytjlmkdaeabjeoaa", sum := "d274bf0cc79cb529d511119e4bfee2a6bcc5555b6a29eca98b7698460b022b40", func := "magneto/magnetolaw40.QuizSteps", spec := "quizSteps", unfollowed := true, recurses := true, apart := false, narrowed := true }
def QuizStepsUptoSaid : Prop := quizStepsUptoRow.holds Try.pinned (OpenSpec.upto quizStepsSpec)

/-- 'magnetolaw40.QuizHonest', WHERE WHAT IT READS IS OF BULK AT MOST 1048576: true; the input reads as it did. -/
def quizHonestUptoRow : OpenClaim := { program := "ytjlmkdaeabjeoaa", sum := "d274bf0cc79cb529d511119e4bfee2a6bcc5555b6a29eca98b7698460b022b40", func := "magneto/magnetolaw40.QuizHonest", spec := "quizHonest", unfollowed := true, recurses := true, apart := false, narrowed := true }
def QuizHonestUptoSaid : Prop := quizHonestUptoRow.holds Try.pinned (OpenSpec.upto quizHonestSpec)

/-- 'magnetolaw40.QuizStops', WHERE WHAT IT READS IS OF BULK AT MOST 1048576: true; the input reads as it did. -/
def quizStopsUptoRow : OpenClaim := { program := "ytjlmkdaeabjeoaa", sum := "d274bf0cc79cb529d511119e4bfee2a6bcc5555b6a29eca98b7698460b022b40", func := "magneto/magnetolaw40.QuizStops", spec := "quizStops", unfollowed := true, recurses := true, apart := false, narrowed := true }
def QuizStopsUptoSaid : Prop := quizStopsUptoRow.holds Try.pinned (OpenSpec.upto quizStopsSpec)

/-- 'magnetolaw40.QuizScripts', WHERE WHAT IT READS IS OF BULK AT MOST 1048576: true; the input reads as it did. -/
def quizScriptsUptoRow : OpenClaim := { program := "ytjlmkdaeabjeoaa", sum := "d274bf0cc79cb529d511119e4bfee2a6bcc5555b6a29eca98b7698460b022b40", func := "magneto/magnetolaw40.QuizScripts", spec := "quizScripts", unfollowed := true, recurses := true, apart := false, narrowed := true }
def QuizScriptsUptoSaid : Prop := quizScriptsUptoRow.holds Try.pinned (OpenSpec.upto quizScriptsSpec)

end Rows
end Go.Proofs.Ytjlmkdaeabjeoaa
