/- Walks of functions of this seat, printed by a program over the engine. Conditions: as each theorem says. -/
import Derived.Test.YthhdaackhfffiaaDoorZlD14
namespace Go.Proofs.YthhdaackhfffiaaDoor
open Go.Eng Go.RowKit
set_option linter.unusedSimpArgs false
set_option linter.unusedVariables false
structure Ln where
  gS_a : Option Addr
  gS_n : Nat
  gS_c : Nat
  gS_l : List Tk
/-! the reference's words -/
theorem Sep.swap {w0 w : World} {A B : List Eng.Claim} (S : Sep w0 (A ++ B) w) : Sep w0 (B ++ A) w :=
  ⟨S.below, fun c hc => S.all c (List.perm_append_comm.mem_iff.1 hc), fun c hc => S.fresh c (List.perm_append_comm.mem_iff.1 hc), (List.perm_append_comm.pairwise_iff (fun h b hb hb2 => h b hb2 hb)).1 S.apart⟩
section
variable {s : ByteArray} {W M : List (List Tk)} {i k ln fr : Int} {cm : Bool} {l : List Tk}
end
/-! the reference's number of a word -/
/-! the reference's text -/
/-! the reference's line -/
section
variable {L : List Tk} {full : Bool} {bf : Int} {x : Int × Int}
end
theorem chk_pass {st : Option (Int × Int)} {b : Bool} {e i : Int} (h : st = none) (hb : b = false) : chk st b e i = none := by subst h hb; rfl
theorem need_pass {L : List Tk} {st : Option (Int × Int)} {k n : Nat} (hn : L.length = n) (h : st = none) (hk : k < n) : needS L st k = none := chk_pass h (decide_eq_false (by omega))
theorem word_pass {L : List Tk} {st : Option (Int × Int)} {k n : Nat} {t : ByteArray} (hn : L.length = n) (h : st = none) (hk : k < n) (ht : (!((wd L k).toList == t.toList)) = false) : wordS L st k t = none := chk_pass (need_pass hn h hk) ht
theorem num_pass {L : List Tk} {st : Option (Int × Int)} {k n : Nat} {lo hi : Int} (hn : L.length = n) (h : st = none) (hk : k < n) (hg : formL (ls (wd L k)) = true) (hf : (formL (ls (wd L k)) && decide ((digL (ls (wd L k))).length ≤ 13)) = true) (hr : lo ≤ nm L k ∧ nm L k ≤ hi) : numS L st k lo hi = none := by
  refine chk_pass (chk_pass (need_pass hn h hk) (by rw [hg]; rfl)) ?_
  rw [hg, Bool.true_and, decide_eq_true_eq] at hf
  rw [rng_yes ⟨hf, hr⟩]; rfl
theorem ls1_pass {L : List Tk} {n : Nat} (hn : L.length = n) (hk : 0 < n) (ht : (!((wd L 0).toList == W0.toList)) = false) : ls1 L false = none := chk_pass (chk_pass (need_pass hn rfl hk) rfl) ht
end Go.Proofs.YthhdaackhfffiaaDoor

