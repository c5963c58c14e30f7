/- The proof engine, thirteenth part: a text appended to a slice of bytes of the call's own; strings.Builder. Conditions: none; it is generic in the program. -/
import Derived.Test.YtbbpgidmadlgmaaZdEng12
import Derived.Lib.AppendStr
import Derived.Lib.Builder
import Derived.Lib.FrozenHead
import Derived.Lib.OthersKept
namespace Go.Eng
set_option linter.unusedSimpArgs false
set_option linter.unusedVariables false
open Go.RowKit

/-- a byte as the cells of its element -/
def enc8 (c : UInt8) : List Value := [.int .u8 c.toNat]
section
variable {P : Program} {f : FuncId} {N : Nat} {R : Value → World → Prop}

/-! pointers of a builder -/

end

/-! what a call leaves that may turn any slice of elements of one type -/

theorem Sep.builder {w0 w : World} {L : List Claim} {T e : TypeId} {b : Nat} {p : Option Addr} {a : Option Addr} {cap : Nat} {x : ByteArray} (S : Sep w0 (box b [.pointer p, .slice a (ls x).length cap] T :: rowOf enc8 a cap e 1 (ls x) :: L) w)
    (hp : p = none ∨ p = some ⟨b, 0, none⟩) : Lib.IsBuilderF T e w0.heap.size b (Lib.byteCells (ls x)) w := by
  have h0 := S.nth 0 rfl
  have h1 : w.ownsRow 0 e 1 (.slice a (ls x).length cap) (ls x).length ((ls x).flatMap enc8) := S.nth 1 rfl
  have hf0 := S.fresh _ (List.mem_cons_self ..) b rfl
  have hap := S.apart
  simp only [List.pairwise_cons] at hap
  have hcells : (ls x).flatMap enc8 = Lib.byteCells (ls x) := by
    unfold Lib.byteCells
    generalize ls x = l
    induction l with
    | nil => rfl
    | cons c l ih => rw [List.flatMap_cons, ih]; rfl
  have hblen : (Lib.byteCells (ls x)).length = (ls x).length := by rw [← hcells]; generalize ls x = l; induction l with
    | nil => rfl
    | cons c l ih => rw [List.flatMap_cons, List.length_append, ih]; show 1 + l.length = _; rw [List.length_cons]; omega
  have key : ∀ q, q = p → Lib.BuilderAt T e w0.heap.size b (.pointer q) (Lib.byteCells (ls x)) w := by
    rintro q rfl
    refine ⟨hf0.1, .slice a (ls x).length cap, h0, ?_, ?_⟩
    · rw [hblen, ← hcells]
      refine ⟨h1.1, ?_⟩
      rcases h1.2 with hn | ⟨g, cap', cur, hv, hb, rest⟩
      · exact .inl hn
      · refine .inr ⟨g, cap', cur, hv, ?_, rest⟩
        exact (S.fresh _ (List.mem_cons_of_mem _ (List.mem_cons_self ..)) g (by show Value.ownBlock _ = some g; rw [hv]; rfl)).1
    · intro h
      exact hap.1 _ (List.mem_cons_self ..) b rfl h
  refine Lib.IsBuilderF.of ?_
  rcases hp with rfl | rfl
  · exact .inl (key _ rfl)
  · exact .inr (key _ rfl)
end Go.Eng

