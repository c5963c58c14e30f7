/- The proof engine, tenth part: the contracts of Go's library (the shelf) as the engine's contracts; numerals and joined texts. Conditions: none; it is generic in the program. -/
import Derived.Test.YtadgnficogeheaaGreatDoorZsEng9
import Derived.Lib.ItoaNum
import Derived.Lib.Join
import Derived.Lib.SmallJoins
import Derived.WalkSmall
import Derived.Sort.Grow
namespace Go.Eng
set_option linter.unusedSimpArgs false
set_option linter.unusedVariables false
open Go.RowKit
variable {P : Program} {f : FuncId} {N : Nat} {R : Value → World → Prop}

theorem Ret.of_calls {g : FuncId} {args : Array Value} {w : World} {v : Value} {R : World → Prop} {Q : Value → World → Prop} (h : Calls P g args w fun e w' => e = .returned v ∧ R w') (hq : ∀ w', R w' → Q v w') : Ret P g args w Q :=
  Calls.mono h fun _ _ ⟨e, r⟩ => ⟨v, e, hq _ r⟩

theorem Sep.of_below {w w' : World} (h : Below w.heap.size w w') : Sep w [] w' := ⟨h, by simp, by simp, .nil⟩

theorem Sep.of_grow (w : World) (k : Nat) (os : Array Obj) : Sep w [] (Go.Sort.grow (w.drewN k) os) := by
  refine .of_below ((below_drewN (Below.refl _ _) k).trans ⟨rfl, rfl, rfl, by simp [Go.Sort.grow], fun j hj => ?_⟩)
  simp only [Go.Sort.grow]
  rw [Array.getElem?_append_left (by simpa using hj)]

theorem Sep.tab {w w' : World} {L : List Claim} (S : Sep w L w') {n : String} {g : Nat} {k : IntKind} {zs : List Int} (hg : P.globalNamed n = some g) (h : Lib.TabIs P w n k zs) : Lib.TabIs P w' n k zs :=
  Go.Joins.tab_stays hg h S.below (Nat.le_refl _)

/-- a decimal numeral -/
def itoaB (n : Int) : ByteArray := ⟨(Lib.itoa n).toArray⟩
/-- texts joined -/
def joinB (l : List ByteArray) (sep : ByteArray) : ByteArray := ⟨(Lib.join (l.map (·.data.toList)) sep.data.toList).toArray⟩

theorem nDigits_le : ∀ (k u : Nat), u < 10 ^ (k + 1) → Lib.nDigits u ≤ k + 1
  | 0, u, h => by rw [Lib.nDigits_small (by simpa using h)]; exact Nat.le_refl _
  | k + 1, u, h => by
    by_cases hu : u < 10
    · rw [Lib.nDigits_small hu]; omega
    · rw [Lib.nDigits_big hu]
      have := nDigits_le k (u / 10) (by rw [Nat.pow_succ] at h; omega)
      omega

theorem ten19 : (10 : Nat) ^ (18 + 1) = 10000000000000000000 := by decide

theorem itoaB_size {n : Int} (h : -9223372036854775808 ≤ n ∧ n ≤ 9223372036854775807) : (itoaB n).size ≤ 20 := by
  show (Lib.itoa n).toArray.size ≤ 20
  rw [List.size_toArray]
  unfold Lib.itoa
  split
  · rw [List.length_cons, Lib.decDigits_length]
    have := nDigits_le 18 n.natAbs (by rw [ten19]; omega)
    omega
  · rw [Lib.decDigits_length]
    have := nDigits_le 18 n.toNat (by rw [ten19]; omega)
    omega

theorem joinTail_length {sep : List UInt8} {k : Nat} : ∀ {r : List (List UInt8)}, (∀ x ∈ r, x.length ≤ k) → (Lib.joinTail sep r).length ≤ r.length * (k + sep.length)
  | [], _ => by simp [Lib.joinTail]
  | x :: r, h => by
    have h1 := h x (by simp)
    have h2 := joinTail_length (sep := sep) (r := r) fun y hy => h y (by simp [hy])
    simp only [Lib.joinTail, List.map_cons, List.flatten_cons, List.length_append, List.length_cons] at h2 ⊢
    rw [Nat.add_mul]; omega

theorem size_toList (b : ByteArray) : b.data.toList.length = b.size := by rw [Array.length_toList]; rfl

theorem joinB_size {l : List ByteArray} {sep : ByteArray} {k : Nat} (h : ∀ b ∈ l, b.size ≤ k) : (joinB l sep).size ≤ l.length * (k + sep.size) := by
  show (Lib.join (l.map (·.data.toList)) sep.data.toList).toArray.size ≤ _
  rw [List.size_toArray]
  cases l with
  | nil => simp [Lib.join_nil]
  | cons b l =>
    rw [List.map_cons, Lib.join_cons]
    have h1 := h b (by simp)
    have h2 := joinTail_length (sep := sep.data.toList) (k := k) (r := l.map (·.data.toList)) fun x hx => by
      obtain ⟨y, hy, rfl⟩ := List.mem_map.1 hx
      rw [size_toList]; exact h y (by simp [hy])
    rw [List.length_append, size_toList, List.length_cons]
    rw [List.length_map, size_toList] at h2
    rw [Nat.add_mul]; omega

theorem lit_size (a : Array UInt8) : ByteArray.size ⟨a⟩ = a.size := rfl

theorem add_plain (b j : Nat) : (⟨b, 0, none⟩ : Addr).add j = ⟨b, 0 + j, none⟩ := by
  unfold Addr.add
  split
  · rename_i h; subst h; rfl
  · rfl

/-- an own row's address is plain -/
theorem rowOf_plain {α : Type} {enc : α → List Value} {w : World} {a : Option Addr} {cap : Nat} {e : TypeId} {size : Nat} {l : List α} (h : (rowOf enc a cap e size l).holds w) : ∀ p, a = some p → p = ⟨p.block, 0, none⟩ := by
  intro p hp
  have h' : w.ownsRow 0 e size (.slice a l.length cap) l.length (l.flatMap enc) := h
  subst hp
  rcases h'.2 with ⟨h2, _⟩ | ⟨g, c, cur, h2, _⟩
  · simp at h2
  · simp only [Value.slice.injEq, Option.some.injEq] at h2
    rw [h2.1]

end Go.Eng

