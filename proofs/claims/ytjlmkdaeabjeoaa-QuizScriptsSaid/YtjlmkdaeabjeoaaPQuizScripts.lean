/- The given statement QuizScriptsSaid, proved: the law returns true whatever its arguments, and leaves them as they were. Conditions: none beyond the statement's own. -/
import Derived.Test.YtjlmkdaeabjeoaaRows
import Derived.Test.YtjlmkdaeabjeoaaEng6
import Derived.Test.YtjlmkdaeabjeoaaQ5
import Derived.WalkKit
import Derived.ProofKit
import Derived.OpenShut
import Derived.ShutString
import Derived.ChangeOld
import Derived.Below
namespace Go.Proofs.Ytjlmkdaeabjeoaa.quizScripts
open Go.ChangeShapes Go.WideShapes Go.ChangeAt Go.RowKit Go.Eng
open Go.ChangeMaps (open_string shut_string)
set_option linter.unusedVariables false
set_option linter.unusedSimpArgs false

theorem own : ownKnob Try.prog.godebug = none := by kernel_rfl
theorem laidOut : laidOutB Try.prog = true := by kernel_rfl
theorem lst3 {x : List Value} (h : x.length = 3) : ∃ c0 c1 c2, x = [c0, c1, c2] := by
  match x, h with
  | [c0, c1, c2], _ => exact ⟨c0, c1, c2, rfl⟩
theorem el50 {H : Type} {enc : TypeId × Value → H} {W : World} (x : List Value) (hx : Tr enc Try.prog W 50 x) : ∃ y : Act, x = actE y ∧ actQ y := by
  have hl : x.length = 3 := (Tr.struct Try.underlying50 hx).1.trans (show Try.prog.cellsOf 50 = 3 by kernel_rfl)
  obtain ⟨c0, c1, c2, rfl⟩ := lst3 hl
  have hf_y_0 : Tr enc Try.prog W 5 [c0] := (Tr.struct Try.underlying50 hx).2 0 _ rfl
  have hf_y_1 : Tr enc Try.prog W 22 [c1] := (Tr.struct Try.underlying50 hx).2 1 _ rfl
  have hf_y_2 : Tr enc Try.prog W 22 [c2] := (Tr.struct Try.underlying50 hx).2 2 _ rfl
  obtain ⟨y_Kind, hx_, y_Kind_b0⟩ := Tr.int Try.underlying5 hf_y_0
  obtain rfl : c0 = _ := by simpa using hx_
  clear hx_
  have y_Kind_b : 0 ≤ y_Kind ∧ y_Kind ≤ 255 := by simpa [IntKind.min, IntKind.max, IntKind.signed, IntKind.bits] using y_Kind_b0
  clear y_Kind_b0
  clear hf_y_0
  obtain ⟨y_After, hx_, y_After_b0⟩ := Tr.int Try.underlying22 hf_y_1
  obtain rfl : c1 = _ := by simpa using hx_
  clear hx_
  have y_After_b : 0 ≤ y_After ∧ y_After ≤ 65535 := by simpa [IntKind.min, IntKind.max, IntKind.signed, IntKind.bits] using y_After_b0
  clear y_After_b0
  clear hf_y_1
  obtain ⟨y_Answer, hx_, y_Answer_b0⟩ := Tr.int Try.underlying22 hf_y_2
  obtain rfl : c2 = _ := by simpa using hx_
  clear hx_
  have y_Answer_b : 0 ≤ y_Answer ∧ y_Answer ≤ 65535 := by simpa [IntKind.min, IntKind.max, IntKind.signed, IntKind.bits] using y_Answer_b0
  clear y_Answer_b0
  clear hf_y_2
  exact ⟨⟨y_Kind, y_After, y_Answer⟩, rfl, ⟨y_Kind_b, y_After_b, y_Answer_b⟩⟩
set_option maxRecDepth 100000 in
theorem lifted (os : Os) (started : os.Started) (H : Type) (enc : TypeId × Value → H) :
    ReturnsInHanded {} Try.checked os 8 .any (Rows.quizScriptsSpec.pre6 enc Try.prog Try.f8 Rows.quizScriptsRow.domain false) (Rows.quizScriptsSpec.post enc Try.prog Try.f8 false true false false) := by
  refine returnsInHanded_of_change (C := Try.checked) own started (by kernel_rfl) Try.func8
    (ChangeSpec.witness6 (enc := enc) (C := Try.checked) false ⟨#[], #[.int .u16 0, .slice none 0 0], []⟩ 8 (by kernel_rfl) (by kernel_rfl) (by kernel_rfl) (by kernel_rfl)) ?_
  intro W base args ds gs before hval0 hW hcnd _
  have hval : ∀ (j : Nat) t v, Try.f8.params[j]? = some t → args[j]? = some v → Value.okWide Try.prog W .any base t v := hval0
  have hW' := hW
  obtain ⟨p, q, hA0, hV, rfl, hfz, hnd⟩ := hW
  have hA : DataW.TrodAll enc Try.prog W 0 (fun _ => true) true Try.f8.params.toList args.toList ds p := hA0
  rw [Try.params8] at hA hval
  obtain ⟨v0, vs0, d0, ds0, p0, q0, hargs, rfl, rfl, h0, r0⟩ := trodAll_cons hA
  obtain ⟨v1, vs1, d1, ds1, p1, q1, rfl, rfl, rfl, h1, r1⟩ := trodAll_cons r0
  obtain ⟨rfl, rfl, rfl⟩ := trodAll_nil r1
  obtain rfl : args = #[v0, v1] := by cases args; simp_all
  obtain ⟨rfl, rfl⟩ := trodVars_none hV
  have k0 := h0
  have lt0 : ∀ x ∈ p0, x.block < W.heap.size := by obtain ⟨m, hm⟩ := k0; exact DataW.trod_lt m _ _ _ hm
  obtain ⟨seed, rfl, rfl, rfl, seed_w⟩ := open_int Try.underlying22 (hval 0 22 v0 rfl rfl) h0
  have seed_b := bounds_u16 seed_w
  have k1 := h1
  have lt1 : ∀ x ∈ p1, x.block < W.heap.size := by obtain ⟨m, hm⟩ := k1; exact DataW.trod_lt m _ _ _ hm
  have t1 := Tr.of h1
  rw [val_slice Try.underlying48 (hval 1 48 v1 rfl rfl)] at t1
  obtain ⟨P_a, P_len, P_cap, hx_, P_hlen, P_l, P_ln, P_q, P_h⟩ := Tr.list (actE) (actQ) Try.underlying48 t1 el50
  obtain rfl : v1 = _ := by simpa using hx_
  clear hx_
  clear hA0 hval0
  have hw := scripts_any seed P_a P_len P_cap P_l W seed_b ⟨P_ln, fun _ => rfl, by decide, P_h⟩ P_hlen P_q
  refine Calls.mono hw fun e W' he => ?_
  obtain ⟨_, rfl, rfl, hS⟩ := he
  have bel := hS.below
  exact ⟨_, rfl, _, _, _, [], _, [], hW', trodAll_mk1 (shut_bool Try.underlying4 _), (trodAll_cons_mk (Below.trod laidOut (by kernel_rfl) (of_decide_eq_true (by kernel_rfl)) k0 bel lt0) (trodAll_cons_mk (Below.trod laidOut (by kernel_rfl) (of_decide_eq_true (by kernel_rfl)) k1 bel lt1) trodAll_mk0)), rfl, bel.frame _, fun h => by cases h⟩

theorem over : Rows.quizScriptsRow.holds Try.pinned (OpenSpec.ofChange Rows.quizScriptsSpec) :=
  OpenClaim.holds_of_wide 8 Try.f8 rfl rfl rfl rfl rfl rfl rfl ⟨rfl, rfl, rfl, rfl, rfl⟩ rfl rfl rfl rfl rfl (by kernel_rfl) Try.func8 (by kernel_rfl)
    (of_decide_eq_true (by kernel_rfl)) (by unfold Func.isWrapper; first | (rw [if_pos (by decide +kernel)]; kernel_rfl) | (rw [if_neg (by decide +kernel)]; exact ⟨rfl, rfl⟩))
    (fun os started H enc _ => lifted os started H enc)

theorem proved : Rows.QuizScriptsSaid := over
#print axioms proved
end Go.Proofs.Ytjlmkdaeabjeoaa.quizScripts
