/- Walks of functions of this seat, printed by a program over the engine. Conditions: as each theorem says. -/
import Derived.Test.YthfpejhonhaggaaGreatDoorZEng15
import Derived.Test.YthfpejhonhaggaaGreatDoorZShelf
namespace Go.Proofs.YthfpejhonhaggaaGreatDoor
open Go.Eng Go.RowKit
set_option linter.unusedSimpArgs false
set_option linter.unusedVariables false
abbrev TabW (w : World) : Prop := Lib.TabIs Tryz.prog w "internal/strconv.uint64pow10" .u64 Lib.pow10Tab ∧ ErrW w 0 ∧ ErrW w 1 ∧ IntW w 2 .i64
theorem tabW_sep {w w' : World} {L : List Go.Eng.Claim} (h : TabW w) (S : Sep w L w') : TabW w' := ⟨S.tab (g := 3) (by kernel_rfl) h.1, (h.2.1).sep S, (h.2.2.1).sep S, (h.2.2.2).sep S⟩
abbrev iv (n : Int) : Value := Value.int IntKind.i64 n
abbrev pv (b : Nat) : Value := Value.pointer (some (Addr.mk b 0 none))
theorem Tryz.mixed : Tryz.prog.follows .mixedOrders = true := by kernel_rfl
/-! the bytes of a text that may have a sign -/
theorem wrapU (n : Int) : IntKind.wrap .u64 n = n % 18446744073709551616 := by simp [IntKind.wrap, IntKind.bits, IntKind.signed]
theorem dg_step {q : Nat → Prop} {i : Int} (h0 : 0 ≤ i) (hq : ∀ k, k < i.toNat → q k) (h : q i.toNat) : ∀ k, k < (i + 1).toNat → q k := by
  intro k hk
  by_cases e : k = i.toNat
  · subst e; exact h
  · exact hq k (by omega)
/-! the text of a number, digit by digit -/
theorem hb50 : HasBody Tryz.prog 50 := fun _ _ => by kernel_rfl
theorem itoa_any (n : Int) (w : World) (hn : -9223372036854775808 ≤ n ∧ n ≤ 9223372036854775807) (hW : TabW w) : Ret Tryz.prog 50 #[iv n] w (fun v w' => v = .string (itoaB n) ∧ Sep w [] w') :=
  Ret.of_calls (Tryz.strconv_Itoa n hn.1 hn.2 w hW.1) fun w' ⟨k, os, e⟩ => ⟨rfl, by subst e; exact .of_grow _ _ _⟩
theorem hb49 : HasBody Tryz.prog 49 := fun _ _ => by kernel_rfl
end Go.Proofs.YthfpejhonhaggaaGreatDoor

