/- The given statement QuizStepsSaid, proved: the law returns true whatever its arguments, and leaves them as they were. Conditions: none beyond the statement's own. -/
import Derived.Test.YtjlmkdaeabjeoaaRows
import Derived.Test.YtjlmkdaeabjeoaaEng6
import Derived.Test.YtjlmkdaeabjeoaaQ3
import Derived.WalkKit
import Derived.ProofKit
import Derived.OpenShut
import Derived.ShutString
import Derived.ChangeOld
import Derived.Below
namespace Go.Proofs.Ytjlmkdaeabjeoaa.quizSteps
open Go.ChangeShapes Go.WideShapes Go.ChangeAt Go.RowKit Go.Eng
open Go.ChangeMaps (open_string shut_string)
set_option linter.unusedVariables false
set_option linter.unusedSimpArgs false

theorem own : ownKnob Try.prog.godebug = none := by kernel_rfl
theorem laidOut : laidOutB Try.prog = true := by kernel_rfl
theorem arr5 {cs : Array Value} (h : cs.size = 5) : ∃ c0 c1 c2 c3 c4, cs = #[c0, c1, c2, c3, c4] := by
  obtain ⟨l⟩ := cs
  match l, h with
  | [c0, c1, c2, c3, c4], _ => exact ⟨c0, c1, c2, c3, c4, rfl⟩

set_option maxRecDepth 100000 in
theorem lifted (os : Os) (started : os.Started) (H : Type) (enc : TypeId × Value → H) :
    ReturnsInHanded {} Try.checked os 5 .any (Rows.quizStepsSpec.pre6 enc Try.prog Try.f5 Rows.quizStepsRow.domain false) (Rows.quizStepsSpec.post enc Try.prog Try.f5 false true false false) := by
  refine returnsInHanded_of_change (C := Try.checked) own started (by kernel_rfl) Try.func5
    (ChangeSpec.witness6 (enc := enc) (C := Try.checked) false ⟨#[], #[.agg #[.int .i64 0, .int .i64 0, .int .i64 0, .bool false, .bool false], .int .i64 0, .int .i64 0, .slice none 0 0], []⟩ 8 (by kernel_rfl) (by kernel_rfl) (by kernel_rfl) (by kernel_rfl)) ?_
  intro W base args ds gs before hval0 hW hcnd _
  have hval : ∀ (j : Nat) t v, Try.f5.params[j]? = some t → args[j]? = some v → Value.okWide Try.prog W .any base t v := hval0
  have hW' := hW
  obtain ⟨p, q, hA0, hV, rfl, hfz, hnd⟩ := hW
  have hA : DataW.TrodAll enc Try.prog W 0 (fun _ => true) true Try.f5.params.toList args.toList ds p := hA0
  rw [Try.params5] at hA hval
  obtain ⟨v0, vs0, d0, ds0, p0, q0, hargs, rfl, rfl, h0, r0⟩ := trodAll_cons hA
  obtain ⟨v1, vs1, d1, ds1, p1, q1, rfl, rfl, rfl, h1, r1⟩ := trodAll_cons r0
  obtain ⟨v2, vs2, d2, ds2, p2, q2, rfl, rfl, rfl, h2, r2⟩ := trodAll_cons r1
  obtain ⟨v3, vs3, d3, ds3, p3, q3, rfl, rfl, rfl, h3, r3⟩ := trodAll_cons r2
  obtain ⟨rfl, rfl, rfl⟩ := trodAll_nil r3
  obtain rfl : args = #[v0, v1, v2, v3] := by cases args; simp_all
  obtain ⟨rfl, rfl⟩ := trodVars_none hV
  have k0 := h0
  have lt0 : ∀ x ∈ p0, x.block < W.heap.size := by obtain ⟨m, hm⟩ := k0; exact DataW.trod_lt m _ _ _ hm
  obtain ⟨cs0, rfl, hs0⟩ := okWide_struct Try.underlying31 (hval 0 31 v0 rfl rfl)
  obtain ⟨q_c0, q_c1, q_c2, q_c3, q_c4, rfl⟩ := arr5 (hs0.trans (show Try.prog.cellsOf 31 = 5 by kernel_rfl))
  have t0 : Tr enc Try.prog W 31 [q_c0, q_c1, q_c2, q_c3, q_c4] := Tr.of h0
  have hf_q_0 : Tr enc Try.prog W 3 [q_c0] := (Tr.struct Try.underlying31 t0).2 0 _ rfl
  have hf_q_1 : Tr enc Try.prog W 3 [q_c1] := (Tr.struct Try.underlying31 t0).2 1 _ rfl
  have hf_q_2 : Tr enc Try.prog W 3 [q_c2] := (Tr.struct Try.underlying31 t0).2 2 _ rfl
  have hf_q_3 : Tr enc Try.prog W 4 [q_c3] := (Tr.struct Try.underlying31 t0).2 3 _ rfl
  have hf_q_4 : Tr enc Try.prog W 4 [q_c4] := (Tr.struct Try.underlying31 t0).2 4 _ rfl
  obtain ⟨q_Question, hx_, q_Question_b0⟩ := Tr.int Try.underlying3 hf_q_0
  obtain rfl : q_c0 = _ := by simpa using hx_
  clear hx_
  have q_Question_b : (-9223372036854775808) ≤ q_Question ∧ q_Question ≤ 9223372036854775807 := by simpa [IntKind.min, IntKind.max, IntKind.signed, IntKind.bits] using q_Question_b0
  clear q_Question_b0
  clear hf_q_0
  obtain ⟨q_Asked, hx_, q_Asked_b0⟩ := Tr.int Try.underlying3 hf_q_1
  obtain rfl : q_c1 = _ := by simpa using hx_
  clear hx_
  have q_Asked_b : (-9223372036854775808) ≤ q_Asked ∧ q_Asked ≤ 9223372036854775807 := by simpa [IntKind.min, IntKind.max, IntKind.signed, IntKind.bits] using q_Asked_b0
  clear q_Asked_b0
  clear hf_q_1
  obtain ⟨q_Errors, hx_, q_Errors_b0⟩ := Tr.int Try.underlying3 hf_q_2
  obtain rfl : q_c2 = _ := by simpa using hx_
  clear hx_
  have q_Errors_b : (-9223372036854775808) ≤ q_Errors ∧ q_Errors ≤ 9223372036854775807 := by simpa [IntKind.min, IntKind.max, IntKind.signed, IntKind.bits] using q_Errors_b0
  clear q_Errors_b0
  clear hf_q_2
  obtain ⟨q_Open, hx_⟩ := Tr.bool Try.underlying4 hf_q_3
  obtain rfl : q_c3 = _ := by simpa using hx_
  clear hx_
  clear hf_q_3
  obtain ⟨q_Off, hx_⟩ := Tr.bool Try.underlying4 hf_q_4
  obtain rfl : q_c4 = _ := by simpa using hx_
  clear hx_
  clear hf_q_4
  have k1 := h1
  have lt1 : ∀ x ∈ p1, x.block < W.heap.size := by obtain ⟨m, hm⟩ := k1; exact DataW.trod_lt m _ _ _ hm
  obtain ⟨now, rfl, rfl, rfl, now_w⟩ := open_int Try.underlying3 (hval 1 3 v1 rfl rfl) h1
  have now_b := bounds_i64 now_w
  have k2 := h2
  have lt2 : ∀ x ∈ p2, x.block < W.heap.size := by obtain ⟨m, hm⟩ := k2; exact DataW.trod_lt m _ _ _ hm
  obtain ⟨answer, rfl, rfl, rfl, answer_w⟩ := open_int Try.underlying3 (hval 2 3 v2 rfl rfl) h2
  have answer_b := bounds_i64 answer_w
  have k3 := h3
  have lt3 : ∀ x ∈ p3, x.block < W.heap.size := by obtain ⟨m, hm⟩ := k3; exact DataW.trod_lt m _ _ _ hm
  have t3 := Tr.of h3
  rw [val_slice Try.underlying25 (hval 3 25 v3 rfl rfl)] at t3
  obtain ⟨P_a, P_len, P_cap, hx_, P_hlen, P_l, P_q, P_h⟩ := Tr.ones (Value.int .i64) (fun n => (-9223372036854775808) ≤ n ∧ n ≤ 9223372036854775807) Try.underlying25 t3 (fun x hx => by obtain ⟨n, h1, h2⟩ := Tr.int Try.underlying3 hx; exact ⟨n, h1, by simpa [IntKind.min, IntKind.max, IntKind.signed, IntKind.bits] using h2⟩)
  obtain rfl : v3 = _ := by simpa using hx_
  clear hx_
  clear hA0 hval0
  have hw := steps_any q_Question q_Asked q_Errors q_Open q_Off now answer P_a P_len P_cap P_l W P_h P_hlen
  refine Calls.mono hw fun e W' he => ?_
  obtain ⟨_, rfl, rfl, hS⟩ := he
  have bel := hS.below
  exact ⟨_, rfl, _, _, _, [], _, [], hW', trodAll_mk1 (shut_bool Try.underlying4 _), (trodAll_cons_mk (Below.trod laidOut (by kernel_rfl) (of_decide_eq_true (by kernel_rfl)) k0 bel lt0) (trodAll_cons_mk (Below.trod laidOut (by kernel_rfl) (of_decide_eq_true (by kernel_rfl)) k1 bel lt1) (trodAll_cons_mk (Below.trod laidOut (by kernel_rfl) (of_decide_eq_true (by kernel_rfl)) k2 bel lt2) (trodAll_cons_mk (Below.trod laidOut (by kernel_rfl) (of_decide_eq_true (by kernel_rfl)) k3 bel lt3) trodAll_mk0)))), rfl, bel.frame _, fun h => by cases h⟩

theorem over : Rows.quizStepsRow.holds Try.pinned (OpenSpec.ofChange Rows.quizStepsSpec) :=
  OpenClaim.holds_of_wide 5 Try.f5 rfl rfl rfl rfl rfl rfl rfl ⟨rfl, rfl, rfl, rfl, rfl⟩ rfl rfl rfl rfl rfl (by kernel_rfl) Try.func5 (by kernel_rfl)
    (of_decide_eq_true (by kernel_rfl)) (by unfold Func.isWrapper; first | (rw [if_pos (by decide +kernel)]; kernel_rfl) | (rw [if_neg (by decide +kernel)]; exact ⟨rfl, rfl⟩))
    (fun os started H enc _ => lifted os started H enc)

theorem proved : Rows.QuizStepsSaid := over
#print axioms proved
end Go.Proofs.Ytjlmkdaeabjeoaa.quizSteps
