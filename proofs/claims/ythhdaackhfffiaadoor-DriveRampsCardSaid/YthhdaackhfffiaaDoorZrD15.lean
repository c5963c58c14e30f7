/- Walks of functions of this seat, printed by a program over the engine. Conditions: as each theorem says. -/
import Derived.Test.YthhdaackhfffiaaDoorZrD14
namespace Go.Proofs.YthhdaackhfffiaaDoor
open Go.Eng Go.RowKit
set_option linter.unusedSimpArgs false
set_option linter.unusedVariables false
structure Ln where
  gS_a : Option Addr
  gS_n : Nat
  gS_c : Nat
  gS_l : List Tk
/-! the reference's words -/
theorem Sep.swap {w0 w : World} {A B : List Eng.Claim} (S : Sep w0 (A ++ B) w) : Sep w0 (B ++ A) w :=
  ⟨S.below, fun c hc => S.all c (List.perm_append_comm.mem_iff.1 hc), fun c hc => S.fresh c (List.perm_append_comm.mem_iff.1 hc), (List.perm_append_comm.pairwise_iff (fun h b hb hb2 => h b hb2 hb)).1 S.apart⟩
section
variable {s : ByteArray} {W M : List (List Tk)} {i k ln fr : Int} {cm : Bool} {l : List Tk}
end
/-! the reference's number of a word -/
/-! the reference's text -/
/-! the reference's line -/
section
variable {L : List Tk} {full : Bool} {bf : Int} {x : Int × Int}
end
end Go.Proofs.YthhdaackhfffiaaDoor

