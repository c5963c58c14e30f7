/- Walks of functions of this seat, printed by a program over the engine. Conditions: as each theorem says. -/
import Derived.Test.YthiklimfffhbaaaDoorZlP13
import Derived.Test.YthiklimfffhbaaaDoorZlEng13
namespace Go.Proofs.YthiklimfffhbaaaDoor
open Go.Eng Go.RowKit
set_option linter.unusedSimpArgs false
set_option linter.unusedVariables false
theorem hb22 : HasBody Tryd.prog 22 := fun _ _ => by kernel_rfl
theorem join_any (la : Option Addr) (len cap : Nat) (l : List ByteArray) (sep : ByteArray) (w : World) (hI : Ones Value.string w la len l) (hp : ∀ p, la = some p → p = ⟨p.block, 0, none⟩) (hcap : len ≤ cap) (hN : len ≤ 140737488355328) (hs : (joinB l sep).size ≤ 140737488355328) :
    Ret Tryd.prog 22 #[.slice la len cap, .string sep] w (fun v w' => v = .string (joinB l sep) ∧ Sep w [] w') := by
  have hll := hI.len_eq
  by_cases h0 : len = 0
  · subst h0
    have hl : l = [] := List.eq_nil_of_length_eq_zero hll
    subst hl
    exact Ret.of_calls (Tryd.strings_Join_none la cap sep w) fun w' e => ⟨rfl, by subst e; exact .refl _⟩
  · obtain ⟨p, rfl, hc⟩ := hI.at ByteArray.empty 0 (by omega)
    have e := hp p rfl
    have hb := World.block_lt_of_cell? _ _ hc
    generalize hbk : p.block = bk at e
    subst e; subst hll
    exact Ret.of_calls (Tryd.strings_Join bk 0 cap l sep w (fun j x hx => by
      obtain ⟨q, hq, hcq⟩ := hI.cells j (Value.string x) (by rw [List.getElem?_map, hx]; rfl)
      cases hq; rw [add_plain] at hcq; exact hcq) hb hN hcap (by have h : (Lib.join (l.map (·.data.toList)) sep.data.toList).toArray.size ≤ 140737488355328 := hs; rw [List.size_toArray] at h; exact h)) fun w' hb => ⟨rfl, .of_below hb⟩
theorem size_app (a b : ByteArray) : (a ++ b).size = a.size + b.size := by rw [← ls_length, ls_append, List.length_append, ls_length, ls_length]
/-! the lines of a text -/
/-! a line out of its words -/
theorem joinB_ls (l : List ByteArray) (sep : ByteArray) : ls (joinB l sep) = Lib.join (l.map ls) (ls sep) := rfl
/-! the first frame with an ID -/
end Go.Proofs.YthiklimfffhbaaaDoor

