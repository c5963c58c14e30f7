/- Walks of functions of this seat, printed by a program over the engine. Conditions: as each theorem says. -/
import Derived.Test.YthhdaackhfffiaaDoorZbD15
namespace Go.Proofs.YthhdaackhfffiaaDoor
open Go.Eng Go.RowKit
set_option linter.unusedSimpArgs false
set_option linter.unusedVariables false
theorem lines_all : ∀ (ps : List (List UInt8)) (ln : Int) (n : Nat), (∀ q ∈ ps, q.length ≤ n) → ∀ L ∈ linesF ps ln, L.length ≠ 0 ∧ L.length ≤ n ∧ ∀ k, (L.getD k tk0).gText.size ≤ n
  | [], _, _, _, L, hL => by cases hL
  | q :: ps, ln, n, h, L, hL => by
    have ih := lines_all ps (ln + 1) n (fun q hq => h q (List.mem_cons_of_mem _ hq))
    have hq := h q List.mem_cons_self
    have hb := before_len 35 q
    rw [linesF] at hL
    unfold consL at hL
    split at hL
    · exact ih L hL
    · rename_i hne
      rcases List.mem_cons.1 hL with rfl | hL
      · refine ⟨fun e => hne (List.eq_nil_of_length_eq_zero e), ?_, fun k => lexW_getD _ _ _ n (by omega) k⟩
        have := lexW_len (beforeL 35 q) [] ln 1
        rw [if_pos rfl] at this; omega
      · exact ih L hL
theorem splitOn_mem {c : UInt8} {l q : List UInt8} (h : q ∈ splitOn c l) : q.length ≤ l.length := by
  have h1 := splitOn_sum c l
  have h2 := mem_flatten_len h
  have h3 := splitOn_ne c l
  have h4 : 1 ≤ (splitOn c l).length := by
    cases hs : splitOn c l with
    | nil => exact absurd hs h3
    | cons _ _ => simp
  omega
section
variable {s : ByteArray} {wo : List Ln} {out : List Dr} {i bf : Int}
end
end Go.Proofs.YthhdaackhfffiaaDoor

