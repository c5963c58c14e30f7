/- The given statement ChartExploresSaid, proved: the law returns true whatever its arguments, and leaves them as they were. Conditions: none beyond the statement's own. -/
import Derived.Test.YtbbpgidmadlgmaaRows
import Derived.Test.YtbbpgidmadlgmaaZxEng6
import Derived.Test.YtbbpgidmadlgmaaZxX12
import Derived.WalkKit
import Derived.ProofKit
import Derived.OpenShut
import Derived.ShutString
import Derived.ChangeOld
import Derived.Below
namespace Go.Proofs.Ytbbpgidmadlgmaa.chartExplores
open Go.ChangeShapes Go.WideShapes Go.ChangeAt Go.RowKit Go.Eng
open Go.ChangeMaps (open_string shut_string)
set_option linter.unusedVariables false
set_option linter.unusedSimpArgs false

theorem own : ownKnob Try.prog.godebug = none := by kernel_rfl
theorem laidOut : laidOutB Try.prog = true := by kernel_rfl
theorem arr4 {cs : Array Value} (h : cs.size = 4) : ∃ c0 c1 c2 c3, cs = #[c0, c1, c2, c3] := by
  obtain ⟨l⟩ := cs
  match l, h with
  | [c0, c1, c2, c3], _ => exact ⟨c0, c1, c2, c3, rfl⟩
theorem lst5 {x : List Value} (h : x.length = 5) : ∃ c0 c1 c2 c3 c4, x = [c0, c1, c2, c3, c4] := by
  match x, h with
  | [c0, c1, c2, c3, c4], _ => exact ⟨c0, c1, c2, c3, c4, rfl⟩
set_option maxRecDepth 100000 in
theorem el42 {H : Type} {enc : TypeId × Value → H} {W : World} (x : List Value) (hx : Tr enc Try.prog W 42 x) : ∃ y : Mv, x = mvE y ∧ mvQ W y := by
  have hl : x.length = 5 := (Tr.struct Try.underlying42 hx).1.trans (show Try.prog.cellsOf 42 = 5 by kernel_rfl)
  obtain ⟨c0, c1, c2, c3, c4, rfl⟩ := lst5 hl
  have hf_y_0 : Tr enc Try.prog W 3 [c0] := (Tr.struct Try.underlying42 hx).2 0 _ rfl
  have hf_y_1 : Tr enc Try.prog W 3 [c1] := (Tr.struct Try.underlying42 hx).2 1 _ rfl
  have hf_y_2 : Tr enc Try.prog W 3 [c2] := (Tr.struct Try.underlying42 hx).2 2 _ rfl
  have hf_y_3 : Tr enc Try.prog W 3 [c3] := (Tr.struct Try.underlying42 hx).2 3 _ rfl
  have hf_y_4 : Tr enc Try.prog W 3 [c4] := (Tr.struct Try.underlying42 hx).2 4 _ rfl
  obtain ⟨y_From, hx_, y_From_b0⟩ := Tr.int Try.underlying3 hf_y_0
  obtain rfl : c0 = _ := by simpa using hx_
  clear hx_
  have y_From_b : (-9223372036854775808) ≤ y_From ∧ y_From ≤ 9223372036854775807 := by simpa [IntKind.min, IntKind.max, IntKind.signed, IntKind.bits] using y_From_b0
  clear y_From_b0
  clear hf_y_0
  obtain ⟨y_To, hx_, y_To_b0⟩ := Tr.int Try.underlying3 hf_y_1
  obtain rfl : c1 = _ := by simpa using hx_
  clear hx_
  have y_To_b : (-9223372036854775808) ≤ y_To ∧ y_To ≤ 9223372036854775807 := by simpa [IntKind.min, IntKind.max, IntKind.signed, IntKind.bits] using y_To_b0
  clear y_To_b0
  clear hf_y_1
  obtain ⟨y_On, hx_, y_On_b0⟩ := Tr.int Try.underlying3 hf_y_2
  obtain rfl : c2 = _ := by simpa using hx_
  clear hx_
  have y_On_b : (-9223372036854775808) ≤ y_On ∧ y_On ≤ 9223372036854775807 := by simpa [IntKind.min, IntKind.max, IntKind.signed, IntKind.bits] using y_On_b0
  clear y_On_b0
  clear hf_y_2
  obtain ⟨y_Off, hx_, y_Off_b0⟩ := Tr.int Try.underlying3 hf_y_3
  obtain rfl : c3 = _ := by simpa using hx_
  clear hx_
  have y_Off_b : (-9223372036854775808) ≤ y_Off ∧ y_Off ≤ 9223372036854775807 := by simpa [IntKind.min, IntKind.max, IntKind.signed, IntKind.bits] using y_Off_b0
  clear y_Off_b0
  clear hf_y_3
  obtain ⟨y_After, hx_, y_After_b0⟩ := Tr.int Try.underlying3 hf_y_4
  obtain rfl : c4 = _ := by simpa using hx_
  clear hx_
  have y_After_b : (-9223372036854775808) ≤ y_After ∧ y_After ≤ 9223372036854775807 := by simpa [IntKind.min, IntKind.max, IntKind.signed, IntKind.bits] using y_After_b0
  clear y_After_b0
  clear hf_y_4
  exact ⟨⟨y_From, y_To, y_On, y_Off, y_After⟩, rfl, ⟨y_From_b, y_To_b, y_On_b, y_Off_b, y_After_b, trivial⟩⟩
set_option maxRecDepth 100000 in
theorem lifted (os : Os) (started : os.Started) (H : Type) (enc : TypeId × Value → H) :
    ReturnsInHanded {} Try.checked os 7 .any (Rows.chartExploresSpec.pre6 enc Try.prog Try.f7 Rows.chartExploresRow.domain false) (Rows.chartExploresSpec.post enc Try.prog Try.f7 false true false false) := by
  refine returnsInHanded_of_change (C := Try.checked) own started (by kernel_rfl) Try.func7
    (ChangeSpec.witness6 (enc := enc) (C := Try.checked) false ⟨#[], #[.agg #[.slice none 0 0, .slice none 0 0, .int .i64 0, .slice none 0 0]], []⟩ 8 (by kernel_rfl) (by kernel_rfl) (by kernel_rfl) (by kernel_rfl)) ?_
  intro W base args ds gs before hval0 hW hcnd _
  have hval : ∀ (j : Nat) t v, Try.f7.params[j]? = some t → args[j]? = some v → Value.okWide Try.prog W .any base t v := hval0
  have hW' := hW
  obtain ⟨p, q, hA0, hV, rfl, hfz, hnd⟩ := hW
  have hA : DataW.TrodAll enc Try.prog W 0 (fun _ => true) true Try.f7.params.toList args.toList ds p := hA0
  rw [Try.params7] at hA hval
  obtain ⟨v0, vs0, d0, ds0, p0, q0, hargs, rfl, rfl, h0, r0⟩ := trodAll_cons hA
  obtain ⟨rfl, rfl, rfl⟩ := trodAll_nil r0
  obtain rfl : args = #[v0] := by cases args; simp_all
  obtain ⟨rfl, rfl⟩ := trodVars_none hV
  have k0 := h0
  have lt0 : ∀ x ∈ p0, x.block < W.heap.size := by obtain ⟨m, hm⟩ := k0; exact DataW.trod_lt m _ _ _ hm
  obtain ⟨cs0, rfl, hs0⟩ := okWide_struct Try.underlying25 (hval 0 25 v0 rfl rfl)
  obtain ⟨c_c0, c_c1, c_c2, c_c3, rfl⟩ := arr4 (hs0.trans (show Try.prog.cellsOf 25 = 4 by kernel_rfl))
  have t0 : Tr enc Try.prog W 25 [c_c0, c_c1, c_c2, c_c3] := Tr.of h0
  have hf_c_0 : Tr enc Try.prog W 22 [c_c0] := (Tr.struct Try.underlying25 t0).2 0 _ rfl
  have hf_c_1 : Tr enc Try.prog W 22 [c_c1] := (Tr.struct Try.underlying25 t0).2 1 _ rfl
  have hf_c_2 : Tr enc Try.prog W 3 [c_c2] := (Tr.struct Try.underlying25 t0).2 2 _ rfl
  have hf_c_3 : Tr enc Try.prog W 23 [c_c3] := (Tr.struct Try.underlying25 t0).2 3 _ rfl
  obtain ⟨c_States_a, c_States_len, c_States_cap, hx_, c_States_hlen, c_States_l, c_States_q, c_States_h⟩ := Tr.ones (Value.string) (fun b => b.size ≤ 9223372036854775807) Try.underlying22 hf_c_0 (fun x hx => by obtain ⟨b, h1, h2⟩ := Tr.string Try.underlying9 hx; exact ⟨b, h1, by simpa [maxLen] using h2⟩)
  obtain rfl : c_c0 = _ := by simpa using hx_
  clear hx_
  have c_States_cp := Tr.cap Try.underlying22 hf_c_0
  clear hf_c_0
  obtain ⟨c_Inputs_a, c_Inputs_len, c_Inputs_cap, hx_, c_Inputs_hlen, c_Inputs_l, c_Inputs_q, c_Inputs_h⟩ := Tr.ones (Value.string) (fun b => b.size ≤ 9223372036854775807) Try.underlying22 hf_c_1 (fun x hx => by obtain ⟨b, h1, h2⟩ := Tr.string Try.underlying9 hx; exact ⟨b, h1, by simpa [maxLen] using h2⟩)
  obtain rfl : c_c1 = _ := by simpa using hx_
  clear hx_
  have c_Inputs_cp := Tr.cap Try.underlying22 hf_c_1
  clear hf_c_1
  obtain ⟨c_Start, hx_, c_Start_b0⟩ := Tr.int Try.underlying3 hf_c_2
  obtain rfl : c_c2 = _ := by simpa using hx_
  clear hx_
  have c_Start_b : (-9223372036854775808) ≤ c_Start ∧ c_Start ≤ 9223372036854775807 := by simpa [IntKind.min, IntKind.max, IntKind.signed, IntKind.bits] using c_Start_b0
  clear c_Start_b0
  clear hf_c_2
  obtain ⟨c_Moves_a, c_Moves_len, c_Moves_cap, hx_, c_Moves_hlen, c_Moves_l, c_Moves_ln, c_Moves_q, c_Moves_h⟩ := Tr.list (mvE) (mvQ W) Try.underlying23 hf_c_3 el42
  obtain rfl : c_c3 = _ := by simpa using hx_
  clear hx_
  have c_Moves_cp := Tr.cap Try.underlying23 hf_c_3
  clear hf_c_3
  clear hA0 hval0
  have hw := lawexplores_any (⟨c_States_a, c_States_len, c_States_cap, c_States_l, c_Inputs_a, c_Inputs_len, c_Inputs_cap, c_Inputs_l, c_Start, c_Moves_a, c_Moves_len, c_Moves_cap, c_Moves_l⟩ : Cht) W ⟨c_States_cp, c_States_h, c_States_q, c_Inputs_cp, c_Inputs_h, c_Inputs_q, c_Start_b, c_Moves_cp, ⟨c_Moves_ln, fun _ => rfl, by decide, c_Moves_h⟩, c_Moves_q, trivial⟩
  refine Calls.mono hw fun e W' he => ?_
  obtain ⟨_, rfl, rfl, hS⟩ := he
  have bel := hS.below
  exact ⟨_, rfl, _, _, _, [], _, [], hW', trodAll_mk1 (shut_bool Try.underlying4 _), (trodAll_cons_mk (Below.trod laidOut (by kernel_rfl) (of_decide_eq_true (by kernel_rfl)) k0 bel lt0) trodAll_mk0), rfl, bel.frame _, fun h => by cases h⟩

theorem over : Rows.chartExploresRow.holds Try.pinned (OpenSpec.ofChange Rows.chartExploresSpec) :=
  OpenClaim.holds_of_wide 7 Try.f7 rfl rfl rfl rfl rfl rfl rfl ⟨rfl, rfl, rfl, rfl, rfl⟩ rfl rfl rfl rfl rfl (by kernel_rfl) Try.func7 (by kernel_rfl)
    (of_decide_eq_true (by kernel_rfl)) (by unfold Func.isWrapper; first | (rw [if_pos (by decide +kernel)]; kernel_rfl) | (rw [if_neg (by decide +kernel)]; exact ⟨rfl, rfl⟩))
    (fun os started H enc _ => lifted os started H enc)

theorem proved : Rows.ChartExploresSaid := over
#print axioms proved
end Go.Proofs.Ytbbpgidmadlgmaa.chartExplores

