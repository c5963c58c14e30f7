/- The given statement ChartDeadSaid, proved: the law returns true whatever its arguments, and leaves them as they were. Conditions: none beyond the statement's own. -/
import Derived.Test.YtbbpgidmadlgmaaRows
import Derived.Test.YtbbpgidmadlgmaaZdEng6
import Derived.Test.YtbbpgidmadlgmaaZdX15
import Derived.WalkKit
import Derived.ProofKit
import Derived.OpenShut
import Derived.ShutString
import Derived.ChangeOld
import Derived.Below
namespace Go.Proofs.Ytbbpgidmadlgmaa.chartDead
open Go.ChangeShapes Go.WideShapes Go.ChangeAt Go.RowKit Go.Eng
open Go.ChangeMaps (open_string shut_string)
set_option linter.unusedVariables false
set_option linter.unusedSimpArgs false

theorem own : ownKnob Try.prog.godebug = none := by kernel_rfl
theorem laidOut : laidOutB Try.prog = true := by kernel_rfl
theorem arr4 {cs : Array Value} (h : cs.size = 4) : ∃ c0 c1 c2 c3, cs = #[c0, c1, c2, c3] := by
  obtain ⟨l⟩ := cs
  match l, h with
  | [c0, c1, c2, c3], _ => exact ⟨c0, c1, c2, c3, rfl⟩
theorem lst5 {x : List Value} (h : x.length = 5) : ∃ c0 c1 c2 c3 c4, x = [c0, c1, c2, c3, c4] := by
  match x, h with
  | [c0, c1, c2, c3, c4], _ => exact ⟨c0, c1, c2, c3, c4, rfl⟩
set_option maxRecDepth 100000 in
theorem el42 {H : Type} {enc : TypeId × Value → H} {W : World} (x : List Value) (hx : Tr enc Try.prog W 42 x) : ∃ y : Mv, x = mvE y ∧ mvQ W y := by
  have hl : x.length = 5 := (Tr.struct Try.underlying42 hx).1.trans (show Try.prog.cellsOf 42 = 5 by kernel_rfl)
  obtain ⟨c0, c1, c2, c3, c4, rfl⟩ := lst5 hl
  have hf_y_0 : Tr enc Try.prog W 3 [c0] := (Tr.struct Try.underlying42 hx).2 0 _ rfl
  have hf_y_1 : Tr enc Try.prog W 3 [c1] := (Tr.struct Try.underlying42 hx).2 1 _ rfl
  have hf_y_2 : Tr enc Try.prog W 3 [c2] := (Tr.struct Try.underlying42 hx).2 2 _ rfl
  have hf_y_3 : Tr enc Try.prog W 3 [c3] := (Tr.struct Try.underlying42 hx).2 3 _ rfl
  have hf_y_4 : Tr enc Try.prog W 3 [c4] := (Tr.struct Try.underlying42 hx).2 4 _ rfl
  obtain ⟨y_From, hx_, y_From_b0⟩ := Tr.int Try.underlying3 hf_y_0
  obtain rfl : c0 = _ := by simpa using hx_
  clear hx_
  have y_From_b : (-9223372036854775808) ≤ y_From ∧ y_From ≤ 9223372036854775807 := by simpa [IntKind.min, IntKind.max, IntKind.signed, IntKind.bits] using y_From_b0
  clear y_From_b0
  clear hf_y_0
  obtain ⟨y_To, hx_, y_To_b0⟩ := Tr.int Try.underlying3 hf_y_1
  obtain rfl : c1 = _ := by simpa using hx_
  clear hx_
  have y_To_b : (-9223372036854775808) ≤ y_To ∧ y_To ≤ 9223372036854775807 := by simpa [IntKind.min, IntKind.max, IntKind.signed, IntKind.bits] using y_To_b0
  clear y_To_b0
  clear hf_y_1
  obtain ⟨y_On, hx_, y_On_b0⟩ := Tr.int Try.underlying3 hf_y_2
  obtain rfl : c2 = _ := by simpa using hx_
  clear hx_
  have y_On_b : (-9223372036854775808) ≤ y_On ∧ y_On ≤ 9223372036854775807 := by simpa [IntKind.min, IntKind.max, IntKind.signed, IntKind.bits] using y_On_b0
  clear y_On_b0
  clear hf_y_2
  obtain ⟨y_Off, hx_, y_Off_b0⟩ := Tr.int Try.underlying3 hf_y_3
  obtain rfl : c3 = _ := by simpa using hx_
  clear hx_
  have y_Off_b : (-9223372036854775808) ≤ y_Off ∧ y_Off ≤ 9223372036854775807 := by simpa [IntKind.min, IntKind.max, IntKind.signed, IntKind.bits] using y_Off_b0
  clear y_Off_b0
  clear hf_y_3
  obtain ⟨y_After, hx_, y_After_b0⟩ := Tr.int Try.underlying3 hf_y_4
  obtain rfl : c4 = _ := by simpa using hx_
  clear hx_
  have y_After_b : (-9223372036854775808) ≤ y_After ∧ y_After ≤ 9223372036854775807 := by simpa [IntKind.min, IntKind.max, IntKind.signed, IntKind.bits] using y_After_b0
  clear y_After_b0
  clear hf_y_4
  exact ⟨⟨y_From, y_To, y_On, y_Off, y_After⟩, rfl, ⟨y_From_b, y_To_b, y_On_b, y_Off_b, y_After_b, trivial⟩⟩
set_option maxRecDepth 100000 in
theorem lifted (os : Os) (started : os.Started) (H : Type) (enc : TypeId × Value → H) :
    ReturnsInHanded {} Try.checked os 8 .any (Rows.chartDeadSpec.pre6 enc Try.prog Try.f8 Rows.chartDeadRow.domain false) (Rows.chartDeadSpec.post enc Try.prog Try.f8 false true false false) := by
  refine returnsInHanded_of_change (C := Try.checked) own started (by kernel_rfl) Try.func8
    (ChangeSpec.witness6 (enc := enc) (C := Try.checked) false ⟨#[], #[.agg #[.slice none 0 0, .slice none 0 0, .int .i64 0, .slice none 0 0], .slice none 0 0, .int .u8 0], []⟩ 8 (by kernel_rfl) (by kernel_rfl) (by kernel_rfl) (by kernel_rfl)) ?_
  intro W base args ds gs before hval0 hW hcnd _
  have hval : ∀ (j : Nat) t v, Try.f8.params[j]? = some t → args[j]? = some v → Value.okWide Try.prog W .any base t v := hval0
  have hW' := hW
  obtain ⟨p, q, hA0, hV, rfl, hfz, hnd⟩ := hW
  have hA : DataW.TrodAll enc Try.prog W 0 (fun _ => true) true Try.f8.params.toList args.toList ds p := hA0
  rw [Try.params8] at hA hval
  obtain ⟨v0, vs0, d0, ds0, p0, q0, hargs, rfl, rfl, h0, r0⟩ := trodAll_cons hA
  obtain ⟨v1, vs1, d1, ds1, p1, q1, rfl, rfl, rfl, h1, r1⟩ := trodAll_cons r0
  obtain ⟨v2, vs2, d2, ds2, p2, q2, rfl, rfl, rfl, h2, r2⟩ := trodAll_cons r1
  obtain ⟨rfl, rfl, rfl⟩ := trodAll_nil r2
  obtain rfl : args = #[v0, v1, v2] := by cases args; simp_all
  obtain ⟨rfl, rfl⟩ := trodVars_none hV
  have k0 := h0
  have lt0 : ∀ x ∈ p0, x.block < W.heap.size := by obtain ⟨m, hm⟩ := k0; exact DataW.trod_lt m _ _ _ hm
  obtain ⟨cs0, rfl, hs0⟩ := okWide_struct Try.underlying25 (hval 0 25 v0 rfl rfl)
  obtain ⟨c_c0, c_c1, c_c2, c_c3, rfl⟩ := arr4 (hs0.trans (show Try.prog.cellsOf 25 = 4 by kernel_rfl))
  have t0 : Tr enc Try.prog W 25 [c_c0, c_c1, c_c2, c_c3] := Tr.of h0
  have hf_c_0 : Tr enc Try.prog W 22 [c_c0] := (Tr.struct Try.underlying25 t0).2 0 _ rfl
  have hf_c_1 : Tr enc Try.prog W 22 [c_c1] := (Tr.struct Try.underlying25 t0).2 1 _ rfl
  have hf_c_2 : Tr enc Try.prog W 3 [c_c2] := (Tr.struct Try.underlying25 t0).2 2 _ rfl
  have hf_c_3 : Tr enc Try.prog W 23 [c_c3] := (Tr.struct Try.underlying25 t0).2 3 _ rfl
  obtain ⟨c_States_a, c_States_len, c_States_cap, hx_, c_States_hlen, c_States_l, c_States_q, c_States_h⟩ := Tr.ones (Value.string) (fun b => b.size ≤ 9223372036854775807) Try.underlying22 hf_c_0 (fun x hx => by obtain ⟨b, h1, h2⟩ := Tr.string Try.underlying9 hx; exact ⟨b, h1, by simpa [maxLen] using h2⟩)
  obtain rfl : c_c0 = _ := by simpa using hx_
  clear hx_
  have c_States_cp := Tr.cap Try.underlying22 hf_c_0
  clear hf_c_0
  obtain ⟨c_Inputs_a, c_Inputs_len, c_Inputs_cap, hx_, c_Inputs_hlen, c_Inputs_l, c_Inputs_q, c_Inputs_h⟩ := Tr.ones (Value.string) (fun b => b.size ≤ 9223372036854775807) Try.underlying22 hf_c_1 (fun x hx => by obtain ⟨b, h1, h2⟩ := Tr.string Try.underlying9 hx; exact ⟨b, h1, by simpa [maxLen] using h2⟩)
  obtain rfl : c_c1 = _ := by simpa using hx_
  clear hx_
  have c_Inputs_cp := Tr.cap Try.underlying22 hf_c_1
  clear hf_c_1
  obtain ⟨c_Start, hx_, c_Start_b0⟩ := Tr.int Try.underlying3 hf_c_2
  obtain rfl : c_c2 = _ := by simpa using hx_
  clear hx_
  have c_Start_b : (-9223372036854775808) ≤ c_Start ∧ c_Start ≤ 9223372036854775807 := by simpa [IntKind.min, IntKind.max, IntKind.signed, IntKind.bits] using c_Start_b0
  clear c_Start_b0
  clear hf_c_2
  obtain ⟨c_Moves_a, c_Moves_len, c_Moves_cap, hx_, c_Moves_hlen, c_Moves_l, c_Moves_ln, c_Moves_q, c_Moves_h⟩ := Tr.list (mvE) (mvQ W) Try.underlying23 hf_c_3 el42
  obtain rfl : c_c3 = _ := by simpa using hx_
  clear hx_
  have c_Moves_cp := Tr.cap Try.underlying23 hf_c_3
  clear hf_c_3
  have k1 := h1
  have lt1 : ∀ x ∈ p1, x.block < W.heap.size := by obtain ⟨m, hm⟩ := k1; exact DataW.trod_lt m _ _ _ hm
  have t1 := Tr.of h1
  rw [val_slice Try.underlying26 (hval 1 26 v1 rfl rfl)] at t1
  obtain ⟨inputs_a, inputs_len, inputs_cap, hx_, inputs_hlen, inputs_l, inputs_q, inputs_h⟩ := Tr.ones (Value.int .i64) (fun n => (-9223372036854775808) ≤ n ∧ n ≤ 9223372036854775807) Try.underlying26 t1 (fun x hx => by obtain ⟨n, h1, h2⟩ := Tr.int Try.underlying3 hx; exact ⟨n, h1, by simpa [IntKind.min, IntKind.max, IntKind.signed, IntKind.bits] using h2⟩)
  obtain rfl : v1 = _ := by simpa using hx_
  clear hx_
  have inputs_cp := Tr.cap Try.underlying26 t1
  have k2 := h2
  have lt2 : ∀ x ∈ p2, x.block < W.heap.size := by obtain ⟨m, hm⟩ := k2; exact DataW.trod_lt m _ _ _ hm
  obtain ⟨which, rfl, rfl, rfl, which_w⟩ := open_int Try.underlying5 (hval 2 5 v2 rfl rfl) h2
  have which_b := bounds_u8 which_w
  clear hA0 hval0
  have hw := lawdead_any (⟨c_States_a, c_States_len, c_States_cap, c_States_l, c_Inputs_a, c_Inputs_len, c_Inputs_cap, c_Inputs_l, c_Start, c_Moves_a, c_Moves_len, c_Moves_cap, c_Moves_l⟩ : Cht) inputs_a inputs_len inputs_cap inputs_l which W ⟨c_States_cp, c_States_h, c_States_q, c_Inputs_cp, c_Inputs_h, c_Inputs_q, c_Start_b, c_Moves_cp, ⟨c_Moves_ln, fun _ => rfl, by decide, c_Moves_h⟩, c_Moves_q, trivial⟩ inputs_h inputs_hlen which_b
  refine Calls.mono hw fun e W' he => ?_
  obtain ⟨_, rfl, rfl, hS⟩ := he
  have bel := hS.below
  exact ⟨_, rfl, _, _, _, [], _, [], hW', trodAll_mk1 (shut_bool Try.underlying4 _), (trodAll_cons_mk (Below.trod laidOut (by kernel_rfl) (of_decide_eq_true (by kernel_rfl)) k0 bel lt0) (trodAll_cons_mk (Below.trod laidOut (by kernel_rfl) (of_decide_eq_true (by kernel_rfl)) k1 bel lt1) (trodAll_cons_mk (Below.trod laidOut (by kernel_rfl) (of_decide_eq_true (by kernel_rfl)) k2 bel lt2) trodAll_mk0))), rfl, bel.frame _, fun h => by cases h⟩

theorem over : Rows.chartDeadRow.holds Try.pinned (OpenSpec.ofChange Rows.chartDeadSpec) :=
  OpenClaim.holds_of_wide 8 Try.f8 rfl rfl rfl rfl rfl rfl rfl ⟨rfl, rfl, rfl, rfl, rfl⟩ rfl rfl rfl rfl rfl (by kernel_rfl) Try.func8 (by kernel_rfl)
    (of_decide_eq_true (by kernel_rfl)) (by unfold Func.isWrapper; first | (rw [if_pos (by decide +kernel)]; kernel_rfl) | (rw [if_neg (by decide +kernel)]; exact ⟨rfl, rfl⟩))
    (fun os started H enc _ => lifted os started H enc)

theorem proved : Rows.ChartDeadSaid := over
#print axioms proved
end Go.Proofs.Ytbbpgidmadlgmaa.chartDead

