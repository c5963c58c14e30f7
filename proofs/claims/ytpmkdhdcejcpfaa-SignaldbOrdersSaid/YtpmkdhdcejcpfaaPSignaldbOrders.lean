/- The given statement SignaldbOrdersSaid, proved: the law returns true whatever its arguments, and leaves them as they were. Conditions: none beyond the statement's own. -/
import Derived.Test.YtpmkdhdcejcpfaaRows
import Derived.Test.YtpmkdhdcejcpfaaEng6
import Derived.Test.YtpmkdhdcejcpfaaS3
import Derived.WalkKit
import Derived.ProofKit
import Derived.OpenShut
import Derived.ShutString
import Derived.ChangeOld
import Derived.Below
namespace Go.Proofs.Ytpmkdhdcejcpfaa.signaldbOrders
open Go.ChangeShapes Go.WideShapes Go.ChangeAt Go.RowKit Go.Eng
open Go.ChangeMaps (open_string shut_string)
set_option linter.unusedVariables false
set_option linter.unusedSimpArgs false

theorem own : ownKnob Try.prog.godebug = none := by kernel_rfl
theorem laidOut : laidOutB Try.prog = true := by kernel_rfl
theorem arr10 {cs : Array Value} (h : cs.size = 10) : ∃ c0 c1 c2 c3 c4 c5 c6 c7 c8 c9, cs = #[c0, c1, c2, c3, c4, c5, c6, c7, c8, c9] := by
  obtain ⟨l⟩ := cs
  match l, h with
  | [c0, c1, c2, c3, c4, c5, c6, c7, c8, c9], _ => exact ⟨c0, c1, c2, c3, c4, c5, c6, c7, c8, c9, rfl⟩

set_option maxRecDepth 100000 in
theorem lifted (os : Os) (started : os.Started) (H : Type) (enc : TypeId × Value → H) :
    ReturnsInHanded {} Try.checked os 4 .any (Rows.signaldbOrdersSpec.pre6 enc Try.prog Try.f4 Rows.signaldbOrdersRow.domain false) (Rows.signaldbOrdersSpec.post enc Try.prog Try.f4 false true false false) := by
  refine returnsInHanded_of_change (C := Try.checked) own started (by kernel_rfl) Try.func4
    (ChangeSpec.witness6 (enc := enc) (C := Try.checked) false ⟨#[], #[.agg #[.string ByteArray.empty, .int .i64 0, .int .i64 0, .bool false, .bool false, .int .i64 0, .int .i64 0, .int .i64 0, .int .i64 0, .int .i64 0]], []⟩ 8 (by kernel_rfl) (by kernel_rfl) (by kernel_rfl) (by kernel_rfl)) ?_
  intro W base args ds gs before hval0 hW hcnd _
  have hval : ∀ (j : Nat) t v, Try.f4.params[j]? = some t → args[j]? = some v → Value.okWide Try.prog W .any base t v := hval0
  have hW' := hW
  obtain ⟨p, q, hA0, hV, rfl, hfz, hnd⟩ := hW
  have hA : DataW.TrodAll enc Try.prog W 0 (fun _ => true) true Try.f4.params.toList args.toList ds p := hA0
  rw [Try.params4] at hA hval
  obtain ⟨v0, vs0, d0, ds0, p0, q0, hargs, rfl, rfl, h0, r0⟩ := trodAll_cons hA
  obtain ⟨rfl, rfl, rfl⟩ := trodAll_nil r0
  obtain rfl : args = #[v0] := by cases args; simp_all
  obtain ⟨rfl, rfl⟩ := trodVars_none hV
  have k0 := h0
  have lt0 : ∀ x ∈ p0, x.block < W.heap.size := by obtain ⟨m, hm⟩ := k0; exact DataW.trod_lt m _ _ _ hm
  obtain ⟨cs0, rfl, hs0⟩ := okWide_struct Try.underlying23 (hval 0 23 v0 rfl rfl)
  obtain ⟨s_c0, s_c1, s_c2, s_c3, s_c4, s_c5, s_c6, s_c7, s_c8, s_c9, rfl⟩ := arr10 (hs0.trans (show Try.prog.cellsOf 23 = 10 by kernel_rfl))
  have t0 : Tr enc Try.prog W 23 [s_c0, s_c1, s_c2, s_c3, s_c4, s_c5, s_c6, s_c7, s_c8, s_c9] := Tr.of h0
  have hf_s_0 : Tr enc Try.prog W 9 [s_c0] := (Tr.struct Try.underlying23 t0).2 0 _ rfl
  have hf_s_1 : Tr enc Try.prog W 3 [s_c1] := (Tr.struct Try.underlying23 t0).2 1 _ rfl
  have hf_s_2 : Tr enc Try.prog W 3 [s_c2] := (Tr.struct Try.underlying23 t0).2 2 _ rfl
  have hf_s_3 : Tr enc Try.prog W 4 [s_c3] := (Tr.struct Try.underlying23 t0).2 3 _ rfl
  have hf_s_4 : Tr enc Try.prog W 4 [s_c4] := (Tr.struct Try.underlying23 t0).2 4 _ rfl
  have hf_s_5 : Tr enc Try.prog W 3 [s_c5] := (Tr.struct Try.underlying23 t0).2 5 _ rfl
  have hf_s_6 : Tr enc Try.prog W 3 [s_c6] := (Tr.struct Try.underlying23 t0).2 6 _ rfl
  have hf_s_7 : Tr enc Try.prog W 3 [s_c7] := (Tr.struct Try.underlying23 t0).2 7 _ rfl
  have hf_s_8 : Tr enc Try.prog W 3 [s_c8] := (Tr.struct Try.underlying23 t0).2 8 _ rfl
  have hf_s_9 : Tr enc Try.prog W 3 [s_c9] := (Tr.struct Try.underlying23 t0).2 9 _ rfl
  obtain ⟨s_Name, hx_, s_Name_b⟩ := Tr.string Try.underlying9 hf_s_0
  obtain rfl : s_c0 = _ := by simpa using hx_
  clear hx_
  clear hf_s_0
  obtain ⟨s_Start, hx_, s_Start_b0⟩ := Tr.int Try.underlying3 hf_s_1
  obtain rfl : s_c1 = _ := by simpa using hx_
  clear hx_
  have s_Start_b : (-9223372036854775808) ≤ s_Start ∧ s_Start ≤ 9223372036854775807 := by simpa [IntKind.min, IntKind.max, IntKind.signed, IntKind.bits] using s_Start_b0
  clear s_Start_b0
  clear hf_s_1
  obtain ⟨s_Length, hx_, s_Length_b0⟩ := Tr.int Try.underlying3 hf_s_2
  obtain rfl : s_c2 = _ := by simpa using hx_
  clear hx_
  have s_Length_b : (-9223372036854775808) ≤ s_Length ∧ s_Length ≤ 9223372036854775807 := by simpa [IntKind.min, IntKind.max, IntKind.signed, IntKind.bits] using s_Length_b0
  clear s_Length_b0
  clear hf_s_2
  obtain ⟨s_Motorola, hx_⟩ := Tr.bool Try.underlying4 hf_s_3
  obtain rfl : s_c3 = _ := by simpa using hx_
  clear hx_
  clear hf_s_3
  obtain ⟨s_Signed, hx_⟩ := Tr.bool Try.underlying4 hf_s_4
  obtain rfl : s_c4 = _ := by simpa using hx_
  clear hx_
  clear hf_s_4
  obtain ⟨s_Num, hx_, s_Num_b0⟩ := Tr.int Try.underlying3 hf_s_5
  obtain rfl : s_c5 = _ := by simpa using hx_
  clear hx_
  have s_Num_b : (-9223372036854775808) ≤ s_Num ∧ s_Num ≤ 9223372036854775807 := by simpa [IntKind.min, IntKind.max, IntKind.signed, IntKind.bits] using s_Num_b0
  clear s_Num_b0
  clear hf_s_5
  obtain ⟨s_Off, hx_, s_Off_b0⟩ := Tr.int Try.underlying3 hf_s_6
  obtain rfl : s_c6 = _ := by simpa using hx_
  clear hx_
  have s_Off_b : (-9223372036854775808) ≤ s_Off ∧ s_Off ≤ 9223372036854775807 := by simpa [IntKind.min, IntKind.max, IntKind.signed, IntKind.bits] using s_Off_b0
  clear s_Off_b0
  clear hf_s_6
  obtain ⟨s_Den, hx_, s_Den_b0⟩ := Tr.int Try.underlying3 hf_s_7
  obtain rfl : s_c7 = _ := by simpa using hx_
  clear hx_
  have s_Den_b : (-9223372036854775808) ≤ s_Den ∧ s_Den ≤ 9223372036854775807 := by simpa [IntKind.min, IntKind.max, IntKind.signed, IntKind.bits] using s_Den_b0
  clear s_Den_b0
  clear hf_s_7
  obtain ⟨s_Low, hx_, s_Low_b0⟩ := Tr.int Try.underlying3 hf_s_8
  obtain rfl : s_c8 = _ := by simpa using hx_
  clear hx_
  have s_Low_b : (-9223372036854775808) ≤ s_Low ∧ s_Low ≤ 9223372036854775807 := by simpa [IntKind.min, IntKind.max, IntKind.signed, IntKind.bits] using s_Low_b0
  clear s_Low_b0
  clear hf_s_8
  obtain ⟨s_High, hx_, s_High_b0⟩ := Tr.int Try.underlying3 hf_s_9
  obtain rfl : s_c9 = _ := by simpa using hx_
  clear hx_
  have s_High_b : (-9223372036854775808) ≤ s_High ∧ s_High ≤ 9223372036854775807 := by simpa [IntKind.min, IntKind.max, IntKind.signed, IntKind.bits] using s_High_b0
  clear s_High_b0
  clear hf_s_9
  clear hA0 hval0
  have hw := orders_any s_Name s_Start s_Length s_Motorola s_Signed s_Num s_Off s_Den s_Low s_High W (by simpa [maxLen] using s_Name_b)
  refine Calls.mono hw fun e W' he => ?_
  obtain ⟨_, rfl, rfl, hS⟩ := he
  have bel := hS.below
  exact ⟨_, rfl, _, _, _, [], _, [], hW', trodAll_mk1 (shut_bool Try.underlying4 _), (trodAll_cons_mk (Below.trod laidOut (by kernel_rfl) (of_decide_eq_true (by kernel_rfl)) k0 bel lt0) trodAll_mk0), rfl, bel.frame _, fun h => by cases h⟩

theorem over : Rows.signaldbOrdersRow.holds Try.pinned (OpenSpec.ofChange Rows.signaldbOrdersSpec) :=
  OpenClaim.holds_of_wide 4 Try.f4 rfl rfl rfl rfl rfl rfl rfl ⟨rfl, rfl, rfl, rfl, rfl⟩ rfl rfl rfl rfl rfl (by kernel_rfl) Try.func4 (by kernel_rfl)
    (of_decide_eq_true (by kernel_rfl)) (by unfold Func.isWrapper; first | (rw [if_pos (by decide +kernel)]; kernel_rfl) | (rw [if_neg (by decide +kernel)]; exact ⟨rfl, rfl⟩))
    (fun os started H enc _ => lifted os started H enc)

theorem proved : Rows.SignaldbOrdersSaid := over
#print axioms proved
end Go.Proofs.Ytpmkdhdcejcpfaa.signaldbOrders
