/- Walks of functions of this seat, printed by a program over the engine. Conditions: as each theorem says. -/
import Derived.Test.YtadgnficogeheaaGreatDoorZsT15
import Derived.Test.YtadgnficogeheaaGreatDoorZsShelf
import Derived.Shelf.Strings.SlTrimAscii
namespace Go.Proofs.YtadgnficogeheaaGreatDoor
open Go.Eng Go.RowKit
set_option linter.unusedSimpArgs false
set_option linter.unusedVariables false
/-! strings.Trim at the digits; CutSuffix at the end of a line -/
def DIGS : ByteArray := ⟨#[48, 49, 50, 51, 52, 53, 54, 55, 56, 57]⟩
theorem dw_head {p : UInt8 → Bool} : ∀ {l : List UInt8} {a : UInt8} {q : List UInt8}, l.dropWhile p = a :: q → p a = false
  | [], a, q, h => by cases h
  | x :: l, a, q, h => by
    rw [List.dropWhile_cons] at h; split at h
    · exact dw_head h
    · rename_i hx; rw [← (List.cons.inj h).1]; exact Bool.eq_false_iff.2 hx
theorem dw_nil {p : UInt8 → Bool} : ∀ {l : List UInt8}, l.dropWhile p = [] ↔ ∀ x ∈ l, p x = true
  | [] => by simp
  | x :: l => by
    rw [List.dropWhile_cons]; split
    · rename_i hx; rw [dw_nil (l := l)]; simp [hx]
    · rename_i hx; simp [hx]
theorem trimS_nil {l cs : List UInt8} : Lib.trimS l cs = [] ↔ ∀ x ∈ l, cs.contains x = true := by
  unfold Lib.trimS Lib.trimLeftS Lib.trimRightS
  constructor
  · intro h
    have h1 := dw_nil.1 h
    cases hr : l.reverse.dropWhile (cs.contains ·) with
    | nil => exact fun x hx => dw_nil.1 hr x (List.mem_reverse.2 hx)
    | cons a q =>
      have h2 : cs.contains a = false := dw_head (p := (cs.contains ·)) hr
      have h3 := h1 a (by rw [hr]; simp)
      rw [h2] at h3; cases h3
  · intro h
    rw [dw_nil.2 (fun x hx => h x (List.mem_reverse.1 hx))]; rfl
theorem digs_in (c : UInt8) : (ls DIGS).contains c = isDig c := by
  have h : ∀ n : Fin 256, (ls DIGS).contains (UInt8.ofNat n.val) = isDig (UInt8.ofNat n.val) := by decide +kernel
  have := h ⟨c.toNat, UInt8.toNat_lt c⟩
  rw [show UInt8.ofNat c.toNat = c from UInt8.ofNat_toNat] at this; exact this
theorem two_allocs (w : World) (a b : Array Value) (T U : TypeId) (q : Nat) : Sep w [] (((w.alloc (.cells a T)).alloc (.cells b U)).drewN q) := by
  obtain ⟨la⟩ := a
  obtain ⟨lb⟩ := b
  exact (((Sep.refl w).alloc la T).alloc lb U).nil.trans (.of_below (below_drewN (Below.refl _ _) q))
theorem trim_any (d : ByteArray) (w : World) (h0 : 0 < d.size) (hs : d.size ≤ 9223372036854775807) : Ret Tryz.prog 51 #[.string d, .string DIGS] w (fun v w' => ∃ t : ByteArray, (t.size = 0 ↔ ∀ c ∈ ls d, isDig c = true) ∧ v = .string t ∧ Sep w [] w') := by
  refine Calls.mono (Go.Proofs.Any.strings_Trim_set Tryz.lays160 (fun w => by kernel_rfl) (by kernel_rfl) d DIGS w (by decide) h0 hs (by decide) (fun j b h => (show ∀ b ∈ DIGS.data.toList, b.toNat < 128 by decide) b (List.mem_of_getElem? h))) fun e w' ⟨he, q, hw⟩ => ?_
  subst he
  refine ⟨_, rfl, _, ?_, rfl, ?_⟩
  · show (Lib.trimS (ls d) (ls DIGS)).toArray.size = 0 ↔ _
    rw [List.size_toArray, List.length_eq_zero_iff, trimS_nil]
    exact ⟨fun h c hc => by rw [← digs_in]; exact h c hc, fun h c hc => by rw [digs_in]; exact h c hc⟩
  · subst hw
    exact two_allocs _ _ _ _ _ _
theorem sfx_ext {s : ByteArray} (h : 0 < s.size) : ((s.extract (s.size - 1) s.size).toList == (⟨#[10]⟩ : ByteArray).toList) = sfxB s := by
  have hl := ls_length s
  rw [beq_ls, ls_extract]
  unfold sfxB
  rw [show (ls s).take s.size = ls s by rw [← hl, List.take_length]]
  have hne : ls s ≠ [] := fun e => by rw [e] at hl; simp at hl; omega
  rw [List.drop_eq_getElem_cons (by omega), List.drop_eq_nil_of_le (by omega), List.getLast?_eq_getElem?, List.getElem?_eq_getElem (show (ls s).length - 1 < (ls s).length by omega)]
  simp only [hl]
  show ([(ls s)[s.size - 1]] == [10]) = (some (ls s)[s.size - 1] == some 10)
  rw [Bool.eq_iff_iff, beq_iff_eq, beq_iff_eq]
  exact ⟨fun h => by rw [List.cons.inj h |>.1], fun h => by rw [Option.some.inj h]⟩
theorem sfx_none {s : ByteArray} (h : s.size = 0) : sfxB s = false := by
  have hl := ls_length s
  unfold sfxB; rw [List.eq_nil_of_length_eq_zero (show (ls s).length = 0 by omega)]; rfl
theorem body_cut {s : ByteArray} (h : sfxB s = true) : s.extract 0 (s.size - 1) = bodyB s := by
  have hl := ls_length s
  have e : ls (s.extract 0 (s.size - 1)) = (ls s).dropLast := by rw [ls_extract, List.drop_zero, List.dropLast_eq_take, hl]
  apply ls_inj
  rw [e]; unfold bodyB; rw [if_pos h, ls_mk]
theorem body_same {s : ByteArray} (h : sfxB s = false) : s = bodyB s := by unfold bodyB; rw [if_neg (by rw [h]; decide)]
theorem sfx_some {s : ByteArray} (h : sfxB s = true) : 1 ≤ s.size := by
  rcases Nat.eq_zero_or_pos s.size with h2 | h2
  · rw [sfx_none h2] at h; cases h
  · exact h2

theorem hb50 : HasBody Tryz.prog 50 := fun _ _ => by kernel_rfl
theorem hb51 : HasBody Tryz.prog 51 := fun _ _ => by kernel_rfl
theorem dash_any (s : ByteArray) (w : World) : Ret Tryz.prog 50 #[.string s, .string ⟨#[45]⟩] w (fun v w' => ∃ d : ByteArray, (ls d = digL (ls s) ∧ d.size ≤ s.size) ∧ v = .string d ∧ Sep w [] w') :=
  Ret.of_calls (Tryz.strings_TrimPrefix s ⟨#[45]⟩ w) fun w' hw => ⟨⟨(digL (ls s)).toArray⟩, ⟨ls_mk _, by have h := (digL_len (ls s)).1; have h2 := ls_length s; show (digL (ls s)).toArray.size ≤ _; rw [List.size_toArray]; omega⟩, by
    have : Lib.trimPrefix s.data.toList (⟨#[45]⟩ : ByteArray).data.toList = digL (ls s) := by
      show (if Lib.hasPrefix (ls s) [45] then (ls s).drop 1 else ls s) = digL (ls s)
      unfold digL negL Lib.hasPrefix
      cases ls s with
      | nil => rfl
      | cons c r =>
        by_cases h : c = 45
        · subst h; simp [List.isPrefixOf]
        · have h' : ¬ 45 = c := fun e => h e.symm
          simp [h, h', List.isPrefixOf]
    rw [this], by subst hw; exact .refl _⟩
end Go.Proofs.YtadgnficogeheaaGreatDoor

