/- The given statement SignaldbApartSaid, proved: the law returns true whatever its arguments, and leaves them as they were. Conditions: none beyond the statement's own. -/
import Derived.Test.YtpmkdhdcejcpfaaRows
import Derived.Test.YtpmkdhdcejcpfaaEng6
import Derived.Test.YtpmkdhdcejcpfaaS7
import Derived.WalkKit
import Derived.ProofKit
import Derived.OpenShut
import Derived.ShutString
import Derived.ChangeOld
import Derived.Below
namespace Go.Proofs.Ytpmkdhdcejcpfaa.signaldbApart
open Go.ChangeShapes Go.WideShapes Go.ChangeAt Go.RowKit Go.Eng
open Go.ChangeMaps (open_string shut_string)
set_option linter.unusedVariables false
set_option linter.unusedSimpArgs false

theorem own : ownKnob Try.prog.godebug = none := by kernel_rfl
theorem laidOut : laidOutB Try.prog = true := by kernel_rfl
theorem arr1 {cs : Array Value} (h : cs.size = 1) : ∃ c0, cs = #[c0] := by
  obtain ⟨l⟩ := cs
  match l, h with
  | [c0], _ => exact ⟨c0, rfl⟩
theorem lst10 {x : List Value} (h : x.length = 10) : ∃ c0 c1 c2 c3 c4 c5 c6 c7 c8 c9, x = [c0, c1, c2, c3, c4, c5, c6, c7, c8, c9] := by
  match x, h with
  | [c0, c1, c2, c3, c4, c5, c6, c7, c8, c9], _ => exact ⟨c0, c1, c2, c3, c4, c5, c6, c7, c8, c9, rfl⟩
theorem el23 {H : Type} {enc : TypeId × Value → H} {W : World} (x : List Value) (hx : Tr enc Try.prog W 23 x) : ∃ y : Sig, x = sigE y ∧ sigQ W y := by
  have hl : x.length = 10 := (Tr.struct Try.underlying23 hx).1.trans (show Try.prog.cellsOf 23 = 10 by kernel_rfl)
  obtain ⟨c0, c1, c2, c3, c4, c5, c6, c7, c8, c9, rfl⟩ := lst10 hl
  have hf_y_0 : Tr enc Try.prog W 9 [c0] := (Tr.struct Try.underlying23 hx).2 0 _ rfl
  have hf_y_1 : Tr enc Try.prog W 3 [c1] := (Tr.struct Try.underlying23 hx).2 1 _ rfl
  have hf_y_2 : Tr enc Try.prog W 3 [c2] := (Tr.struct Try.underlying23 hx).2 2 _ rfl
  have hf_y_3 : Tr enc Try.prog W 4 [c3] := (Tr.struct Try.underlying23 hx).2 3 _ rfl
  have hf_y_4 : Tr enc Try.prog W 4 [c4] := (Tr.struct Try.underlying23 hx).2 4 _ rfl
  have hf_y_5 : Tr enc Try.prog W 3 [c5] := (Tr.struct Try.underlying23 hx).2 5 _ rfl
  have hf_y_6 : Tr enc Try.prog W 3 [c6] := (Tr.struct Try.underlying23 hx).2 6 _ rfl
  have hf_y_7 : Tr enc Try.prog W 3 [c7] := (Tr.struct Try.underlying23 hx).2 7 _ rfl
  have hf_y_8 : Tr enc Try.prog W 3 [c8] := (Tr.struct Try.underlying23 hx).2 8 _ rfl
  have hf_y_9 : Tr enc Try.prog W 3 [c9] := (Tr.struct Try.underlying23 hx).2 9 _ rfl
  obtain ⟨y_Name, hx_, y_Name_b⟩ := Tr.string Try.underlying9 hf_y_0
  obtain rfl : c0 = _ := by simpa using hx_
  clear hx_
  clear hf_y_0
  obtain ⟨y_Start, hx_, y_Start_b0⟩ := Tr.int Try.underlying3 hf_y_1
  obtain rfl : c1 = _ := by simpa using hx_
  clear hx_
  have y_Start_b : (-9223372036854775808) ≤ y_Start ∧ y_Start ≤ 9223372036854775807 := by simpa [IntKind.min, IntKind.max, IntKind.signed, IntKind.bits] using y_Start_b0
  clear y_Start_b0
  clear hf_y_1
  obtain ⟨y_Length, hx_, y_Length_b0⟩ := Tr.int Try.underlying3 hf_y_2
  obtain rfl : c2 = _ := by simpa using hx_
  clear hx_
  have y_Length_b : (-9223372036854775808) ≤ y_Length ∧ y_Length ≤ 9223372036854775807 := by simpa [IntKind.min, IntKind.max, IntKind.signed, IntKind.bits] using y_Length_b0
  clear y_Length_b0
  clear hf_y_2
  obtain ⟨y_Motorola, hx_⟩ := Tr.bool Try.underlying4 hf_y_3
  obtain rfl : c3 = _ := by simpa using hx_
  clear hx_
  clear hf_y_3
  obtain ⟨y_Signed, hx_⟩ := Tr.bool Try.underlying4 hf_y_4
  obtain rfl : c4 = _ := by simpa using hx_
  clear hx_
  clear hf_y_4
  obtain ⟨y_Num, hx_, y_Num_b0⟩ := Tr.int Try.underlying3 hf_y_5
  obtain rfl : c5 = _ := by simpa using hx_
  clear hx_
  have y_Num_b : (-9223372036854775808) ≤ y_Num ∧ y_Num ≤ 9223372036854775807 := by simpa [IntKind.min, IntKind.max, IntKind.signed, IntKind.bits] using y_Num_b0
  clear y_Num_b0
  clear hf_y_5
  obtain ⟨y_Off, hx_, y_Off_b0⟩ := Tr.int Try.underlying3 hf_y_6
  obtain rfl : c6 = _ := by simpa using hx_
  clear hx_
  have y_Off_b : (-9223372036854775808) ≤ y_Off ∧ y_Off ≤ 9223372036854775807 := by simpa [IntKind.min, IntKind.max, IntKind.signed, IntKind.bits] using y_Off_b0
  clear y_Off_b0
  clear hf_y_6
  obtain ⟨y_Den, hx_, y_Den_b0⟩ := Tr.int Try.underlying3 hf_y_7
  obtain rfl : c7 = _ := by simpa using hx_
  clear hx_
  have y_Den_b : (-9223372036854775808) ≤ y_Den ∧ y_Den ≤ 9223372036854775807 := by simpa [IntKind.min, IntKind.max, IntKind.signed, IntKind.bits] using y_Den_b0
  clear y_Den_b0
  clear hf_y_7
  obtain ⟨y_Low, hx_, y_Low_b0⟩ := Tr.int Try.underlying3 hf_y_8
  obtain rfl : c8 = _ := by simpa using hx_
  clear hx_
  have y_Low_b : (-9223372036854775808) ≤ y_Low ∧ y_Low ≤ 9223372036854775807 := by simpa [IntKind.min, IntKind.max, IntKind.signed, IntKind.bits] using y_Low_b0
  clear y_Low_b0
  clear hf_y_8
  obtain ⟨y_High, hx_, y_High_b0⟩ := Tr.int Try.underlying3 hf_y_9
  obtain rfl : c9 = _ := by simpa using hx_
  clear hx_
  have y_High_b : (-9223372036854775808) ≤ y_High ∧ y_High ≤ 9223372036854775807 := by simpa [IntKind.min, IntKind.max, IntKind.signed, IntKind.bits] using y_High_b0
  clear y_High_b0
  clear hf_y_9
  exact ⟨⟨y_Name, y_Start, y_Length, y_Motorola, y_Signed, y_Num, y_Off, y_Den, y_Low, y_High⟩, rfl, ⟨(by simpa [maxLen] using y_Name_b), y_Start_b, y_Length_b, y_Num_b, y_Off_b, y_Den_b, y_Low_b, y_High_b, trivial⟩⟩
theorem lst5 {x : List Value} (h : x.length = 5) : ∃ c0 c1 c2 c3 c4, x = [c0, c1, c2, c3, c4] := by
  match x, h with
  | [c0, c1, c2, c3, c4], _ => exact ⟨c0, c1, c2, c3, c4, rfl⟩
theorem el42 {H : Type} {enc : TypeId × Value → H} {W : World} (x : List Value) (hx : Tr enc Try.prog W 42 x) : ∃ y : Frm, x = frmE y ∧ frmQ W y := by
  have hl : x.length = 5 := (Tr.struct Try.underlying42 hx).1.trans (show Try.prog.cellsOf 42 = 5 by kernel_rfl)
  obtain ⟨c0, c1, c2, c3, c4, rfl⟩ := lst5 hl
  have hf_y_0 : Tr enc Try.prog W 9 [c0] := (Tr.struct Try.underlying42 hx).2 0 _ rfl
  have hf_y_1 : Tr enc Try.prog W 3 [c1] := (Tr.struct Try.underlying42 hx).2 1 _ rfl
  have hf_y_2 : Tr enc Try.prog W 3 [c2] := (Tr.struct Try.underlying42 hx).2 2 _ rfl
  have hf_y_3 : Tr enc Try.prog W 4 [c3] := (Tr.struct Try.underlying42 hx).2 3 _ rfl
  have hf_y_4 : Tr enc Try.prog W 40 [c4] := (Tr.struct Try.underlying42 hx).2 4 _ rfl
  obtain ⟨y_Name, hx_, y_Name_b⟩ := Tr.string Try.underlying9 hf_y_0
  obtain rfl : c0 = _ := by simpa using hx_
  clear hx_
  clear hf_y_0
  obtain ⟨y_ID, hx_, y_ID_b0⟩ := Tr.int Try.underlying3 hf_y_1
  obtain rfl : c1 = _ := by simpa using hx_
  clear hx_
  have y_ID_b : (-9223372036854775808) ≤ y_ID ∧ y_ID ≤ 9223372036854775807 := by simpa [IntKind.min, IntKind.max, IntKind.signed, IntKind.bits] using y_ID_b0
  clear y_ID_b0
  clear hf_y_1
  obtain ⟨y_Length, hx_, y_Length_b0⟩ := Tr.int Try.underlying3 hf_y_2
  obtain rfl : c2 = _ := by simpa using hx_
  clear hx_
  have y_Length_b : (-9223372036854775808) ≤ y_Length ∧ y_Length ≤ 9223372036854775807 := by simpa [IntKind.min, IntKind.max, IntKind.signed, IntKind.bits] using y_Length_b0
  clear y_Length_b0
  clear hf_y_2
  obtain ⟨y_Guarded, hx_⟩ := Tr.bool Try.underlying4 hf_y_3
  obtain rfl : c3 = _ := by simpa using hx_
  clear hx_
  clear hf_y_3
  obtain ⟨y_Signals_a, y_Signals_len, y_Signals_cap, hx_, y_Signals_hlen, y_Signals_l, y_Signals_ln, y_Signals_q, y_Signals_h⟩ := Tr.list (sigE) (sigQ W) Try.underlying40 hf_y_4 el23
  obtain rfl : c4 = _ := by simpa using hx_
  clear hx_
  have y_Signals_cp := Tr.cap Try.underlying40 hf_y_4
  clear hf_y_4
  exact ⟨⟨y_Name, y_ID, y_Length, y_Guarded, y_Signals_a, y_Signals_len, y_Signals_cap, y_Signals_l⟩, rfl, ⟨(by simpa [maxLen] using y_Name_b), y_ID_b, y_Length_b, y_Signals_cp, ⟨y_Signals_ln, fun _ => rfl, by decide, y_Signals_h⟩, y_Signals_q, trivial⟩⟩
set_option maxRecDepth 100000 in
theorem lifted (os : Os) (started : os.Started) (H : Type) (enc : TypeId × Value → H) :
    ReturnsInHanded {} Try.checked os 6 .any (Rows.signaldbApartSpec.pre6 enc Try.prog Try.f6 Rows.signaldbApartRow.domain false) (Rows.signaldbApartSpec.post enc Try.prog Try.f6 false true false false) := by
  refine returnsInHanded_of_change (C := Try.checked) own started (by kernel_rfl) Try.func6
    (ChangeSpec.witness6 (enc := enc) (C := Try.checked) false ⟨#[], #[.agg #[.slice none 0 0]], []⟩ 8 (by kernel_rfl) (by kernel_rfl) (by kernel_rfl) (by kernel_rfl)) ?_
  intro W base args ds gs before hval0 hW hcnd _
  have hval : ∀ (j : Nat) t v, Try.f6.params[j]? = some t → args[j]? = some v → Value.okWide Try.prog W .any base t v := hval0
  have hW' := hW
  obtain ⟨p, q, hA0, hV, rfl, hfz, hnd⟩ := hW
  have hA : DataW.TrodAll enc Try.prog W 0 (fun _ => true) true Try.f6.params.toList args.toList ds p := hA0
  rw [Try.params6] at hA hval
  obtain ⟨v0, vs0, d0, ds0, p0, q0, hargs, rfl, rfl, h0, r0⟩ := trodAll_cons hA
  obtain ⟨rfl, rfl, rfl⟩ := trodAll_nil r0
  obtain rfl : args = #[v0] := by cases args; simp_all
  obtain ⟨rfl, rfl⟩ := trodVars_none hV
  have k0 := h0
  have lt0 : ∀ x ∈ p0, x.block < W.heap.size := by obtain ⟨m, hm⟩ := k0; exact DataW.trod_lt m _ _ _ hm
  obtain ⟨cs0, rfl, hs0⟩ := okWide_struct Try.underlying33 (hval 0 33 v0 rfl rfl)
  obtain ⟨d_c0, rfl⟩ := arr1 (hs0.trans (show Try.prog.cellsOf 33 = 1 by kernel_rfl))
  have t0 : Tr enc Try.prog W 33 [d_c0] := Tr.of h0
  have hf_d_0 : Tr enc Try.prog W 31 [d_c0] := (Tr.struct Try.underlying33 t0).2 0 _ rfl
  obtain ⟨d_Frames_a, d_Frames_len, d_Frames_cap, hx_, d_Frames_hlen, d_Frames_l, d_Frames_ln, d_Frames_q, d_Frames_h⟩ := Tr.list (frmE) (frmQ W) Try.underlying31 hf_d_0 el42
  obtain rfl : d_c0 = _ := by simpa using hx_
  clear hx_
  have d_Frames_cp := Tr.cap Try.underlying31 hf_d_0
  clear hf_d_0
  clear hA0 hval0
  have hw := lawapart_any (⟨d_Frames_a, d_Frames_len, d_Frames_cap, d_Frames_l⟩ : Db) W ⟨d_Frames_cp, ⟨d_Frames_ln, fun _ => rfl, by decide, d_Frames_h⟩, d_Frames_q, trivial⟩
  refine Calls.mono hw fun e W' he => ?_
  obtain ⟨_, rfl, rfl, hS⟩ := he
  have bel := hS.below
  exact ⟨_, rfl, _, _, _, [], _, [], hW', trodAll_mk1 (shut_bool Try.underlying4 _), (trodAll_cons_mk (Below.trod laidOut (by kernel_rfl) (of_decide_eq_true (by kernel_rfl)) k0 bel lt0) trodAll_mk0), rfl, bel.frame _, fun h => by cases h⟩

theorem over : Rows.signaldbApartRow.holds Try.pinned (OpenSpec.ofChange Rows.signaldbApartSpec) :=
  OpenClaim.holds_of_wide 6 Try.f6 rfl rfl rfl rfl rfl rfl rfl ⟨rfl, rfl, rfl, rfl, rfl⟩ rfl rfl rfl rfl rfl (by kernel_rfl) Try.func6 (by kernel_rfl)
    (of_decide_eq_true (by kernel_rfl)) (by unfold Func.isWrapper; first | (rw [if_pos (by decide +kernel)]; kernel_rfl) | (rw [if_neg (by decide +kernel)]; exact ⟨rfl, rfl⟩))
    (fun os started H enc _ => lifted os started H enc)

theorem proved : Rows.SignaldbApartSaid := over
#print axioms proved
end Go.Proofs.Ytpmkdhdcejcpfaa.signaldbApart
