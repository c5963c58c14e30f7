/- The given statement QuizStopsSaid, proved: the law returns true whatever its arguments, and leaves them as they were. Conditions: none beyond the statement's own. -/
import Derived.Test.YtjlmkdaeabjeoaaRows
import Derived.Test.YtjlmkdaeabjeoaaEng6
import Derived.Test.YtjlmkdaeabjeoaaQ5
import Derived.WalkKit
import Derived.ProofKit
import Derived.OpenShut
import Derived.ShutString
import Derived.ChangeOld
import Derived.Below
namespace Go.Proofs.Ytjlmkdaeabjeoaa.quizStops
open Go.ChangeShapes Go.WideShapes Go.ChangeAt Go.RowKit Go.Eng
open Go.ChangeMaps (open_string shut_string)
set_option linter.unusedVariables false
set_option linter.unusedSimpArgs false

theorem own : ownKnob Try.prog.godebug = none := by kernel_rfl
theorem laidOut : laidOutB Try.prog = true := by kernel_rfl
theorem arr4 {cs : Array Value} (h : cs.size = 4) : ∃ c0 c1 c2 c3, cs = #[c0, c1, c2, c3] := by
  obtain ⟨l⟩ := cs
  match l, h with
  | [c0, c1, c2, c3], _ => exact ⟨c0, c1, c2, c3, rfl⟩

set_option maxRecDepth 100000 in
theorem lifted (os : Os) (started : os.Started) (H : Type) (enc : TypeId × Value → H) :
    ReturnsInHanded {} Try.checked os 7 .any (Rows.quizStopsSpec.pre6 enc Try.prog Try.f7 Rows.quizStopsRow.domain false) (Rows.quizStopsSpec.post enc Try.prog Try.f7 false true false false) := by
  refine returnsInHanded_of_change (C := Try.checked) own started (by kernel_rfl) Try.func7
    (ChangeSpec.witness6 (enc := enc) (C := Try.checked) false ⟨#[], #[.int .u16 0, .int .u8 0, .agg #[.int .u8 0, .int .u8 0, .int .u8 0, .int .u8 0], .int .u16 0], []⟩ 8 (by kernel_rfl) (by kernel_rfl) (by kernel_rfl) (by kernel_rfl)) ?_
  intro W base args ds gs before hval0 hW hcnd _
  have hval : ∀ (j : Nat) t v, Try.f7.params[j]? = some t → args[j]? = some v → Value.okWide Try.prog W .any base t v := hval0
  have hW' := hW
  obtain ⟨p, q, hA0, hV, rfl, hfz, hnd⟩ := hW
  have hA : DataW.TrodAll enc Try.prog W 0 (fun _ => true) true Try.f7.params.toList args.toList ds p := hA0
  rw [Try.params7] at hA hval
  obtain ⟨v0, vs0, d0, ds0, p0, q0, hargs, rfl, rfl, h0, r0⟩ := trodAll_cons hA
  obtain ⟨v1, vs1, d1, ds1, p1, q1, rfl, rfl, rfl, h1, r1⟩ := trodAll_cons r0
  obtain ⟨v2, vs2, d2, ds2, p2, q2, rfl, rfl, rfl, h2, r2⟩ := trodAll_cons r1
  obtain ⟨v3, vs3, d3, ds3, p3, q3, rfl, rfl, rfl, h3, r3⟩ := trodAll_cons r2
  obtain ⟨rfl, rfl, rfl⟩ := trodAll_nil r3
  obtain rfl : args = #[v0, v1, v2, v3] := by cases args; simp_all
  obtain ⟨rfl, rfl⟩ := trodVars_none hV
  have k0 := h0
  have lt0 : ∀ x ∈ p0, x.block < W.heap.size := by obtain ⟨m, hm⟩ := k0; exact DataW.trod_lt m _ _ _ hm
  obtain ⟨seed, rfl, rfl, rfl, seed_w⟩ := open_int Try.underlying22 (hval 0 22 v0 rfl rfl) h0
  have seed_b := bounds_u16 seed_w
  have k1 := h1
  have lt1 : ∀ x ∈ p1, x.block < W.heap.size := by obtain ⟨m, hm⟩ := k1; exact DataW.trod_lt m _ _ _ hm
  obtain ⟨errors, rfl, rfl, rfl, errors_w⟩ := open_int Try.underlying5 (hval 1 5 v1 rfl rfl) h1
  have errors_b := bounds_u8 errors_w
  have k2 := h2
  have lt2 : ∀ x ∈ p2, x.block < W.heap.size := by obtain ⟨m, hm⟩ := k2; exact DataW.trod_lt m _ _ _ hm
  obtain ⟨cs2, rfl, hs2⟩ := okWide_array Try.underlying46 (hval 2 46 v2 rfl rfl)
  obtain ⟨how_c0, how_c1, how_c2, how_c3, rfl⟩ := arr4 (hs2.trans (show Try.prog.cellsOf 46 = 4 by kernel_rfl))
  have t2 : Tr enc Try.prog W 46 [how_c0, how_c1, how_c2, how_c3] := Tr.of h2
  have hf_how_0 : Tr enc Try.prog W 5 [how_c0] := (Tr.array Try.underlying46 t2).2 0 (by decide)
  have hf_how_1 : Tr enc Try.prog W 5 [how_c1] := (Tr.array Try.underlying46 t2).2 1 (by decide)
  have hf_how_2 : Tr enc Try.prog W 5 [how_c2] := (Tr.array Try.underlying46 t2).2 2 (by decide)
  have hf_how_3 : Tr enc Try.prog W 5 [how_c3] := (Tr.array Try.underlying46 t2).2 3 (by decide)
  obtain ⟨how_0, hx_, how_0_b0⟩ := Tr.int Try.underlying5 hf_how_0
  obtain rfl : how_c0 = _ := by simpa using hx_
  clear hx_
  have how_0_b : 0 ≤ how_0 ∧ how_0 ≤ 255 := by simpa [IntKind.min, IntKind.max, IntKind.signed, IntKind.bits] using how_0_b0
  clear how_0_b0
  clear hf_how_0
  obtain ⟨how_1, hx_, how_1_b0⟩ := Tr.int Try.underlying5 hf_how_1
  obtain rfl : how_c1 = _ := by simpa using hx_
  clear hx_
  have how_1_b : 0 ≤ how_1 ∧ how_1 ≤ 255 := by simpa [IntKind.min, IntKind.max, IntKind.signed, IntKind.bits] using how_1_b0
  clear how_1_b0
  clear hf_how_1
  obtain ⟨how_2, hx_, how_2_b0⟩ := Tr.int Try.underlying5 hf_how_2
  obtain rfl : how_c2 = _ := by simpa using hx_
  clear hx_
  have how_2_b : 0 ≤ how_2 ∧ how_2 ≤ 255 := by simpa [IntKind.min, IntKind.max, IntKind.signed, IntKind.bits] using how_2_b0
  clear how_2_b0
  clear hf_how_2
  obtain ⟨how_3, hx_, how_3_b0⟩ := Tr.int Try.underlying5 hf_how_3
  obtain rfl : how_c3 = _ := by simpa using hx_
  clear hx_
  have how_3_b : 0 ≤ how_3 ∧ how_3 ≤ 255 := by simpa [IntKind.min, IntKind.max, IntKind.signed, IntKind.bits] using how_3_b0
  clear how_3_b0
  clear hf_how_3
  have k3 := h3
  have lt3 : ∀ x ∈ p3, x.block < W.heap.size := by obtain ⟨m, hm⟩ := k3; exact DataW.trod_lt m _ _ _ hm
  obtain ⟨bye, rfl, rfl, rfl, bye_w⟩ := open_int Try.underlying22 (hval 3 22 v3 rfl rfl) h3
  have bye_b := bounds_u16 bye_w
  clear hA0 hval0
  have hw := stops_any seed errors how_0 how_1 how_2 how_3 bye W seed_b errors_b bye_b how_0_b how_1_b how_2_b how_3_b
  refine Calls.mono hw fun e W' he => ?_
  obtain ⟨_, rfl, rfl, hS⟩ := he
  have bel := hS.below
  exact ⟨_, rfl, _, _, _, [], _, [], hW', trodAll_mk1 (shut_bool Try.underlying4 _), (trodAll_cons_mk (Below.trod laidOut (by kernel_rfl) (of_decide_eq_true (by kernel_rfl)) k0 bel lt0) (trodAll_cons_mk (Below.trod laidOut (by kernel_rfl) (of_decide_eq_true (by kernel_rfl)) k1 bel lt1) (trodAll_cons_mk (Below.trod laidOut (by kernel_rfl) (of_decide_eq_true (by kernel_rfl)) k2 bel lt2) (trodAll_cons_mk (Below.trod laidOut (by kernel_rfl) (of_decide_eq_true (by kernel_rfl)) k3 bel lt3) trodAll_mk0)))), rfl, bel.frame _, fun h => by cases h⟩

theorem over : Rows.quizStopsRow.holds Try.pinned (OpenSpec.ofChange Rows.quizStopsSpec) :=
  OpenClaim.holds_of_wide 7 Try.f7 rfl rfl rfl rfl rfl rfl rfl ⟨rfl, rfl, rfl, rfl, rfl⟩ rfl rfl rfl rfl rfl (by kernel_rfl) Try.func7 (by kernel_rfl)
    (of_decide_eq_true (by kernel_rfl)) (by unfold Func.isWrapper; first | (rw [if_pos (by decide +kernel)]; kernel_rfl) | (rw [if_neg (by decide +kernel)]; exact ⟨rfl, rfl⟩))
    (fun os started H enc _ => lifted os started H enc)

theorem proved : Rows.QuizStopsSaid := over
#print axioms proved
end Go.Proofs.Ytjlmkdaeabjeoaa.quizStops
