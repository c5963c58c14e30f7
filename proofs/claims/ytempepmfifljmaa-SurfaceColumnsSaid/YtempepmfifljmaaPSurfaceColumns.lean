/- The given statement SurfaceColumnsSaid, proved: the law returns true whatever its arguments, and leaves them as they were. Conditions: none beyond the statement's own. -/
import Derived.Test.YtempepmfifljmaaRows
import Derived.Test.YtempepmfifljmaaEng6
import Derived.Test.YtempepmfifljmaaF21
import Derived.WalkKit
import Derived.ProofKit
import Derived.OpenShut
import Derived.ShutString
import Derived.ChangeOld
import Derived.Below
namespace Go.Proofs.Ytempepmfifljmaa.surfaceColumns
open Go.ChangeShapes Go.WideShapes Go.ChangeAt Go.RowKit Go.Eng
open Go.ChangeMaps (open_string shut_string)
set_option linter.unusedVariables false
set_option linter.unusedSimpArgs false

theorem own : ownKnob Try.prog.godebug = none := by kernel_rfl
theorem laidOut : laidOutB Try.prog = true := by kernel_rfl
theorem arr3 {cs : Array Value} (h : cs.size = 3) : ∃ c0 c1 c2, cs = #[c0, c1, c2] := by
  obtain ⟨l⟩ := cs
  match l, h with
  | [c0, c1, c2], _ => exact ⟨c0, c1, c2, rfl⟩
theorem el22 {H : Type} {enc : TypeId × Value → H} {W : World} (x : List Value) (hx : Tr enc Try.prog W 22 x) : ∃ y : Rw, x = rwE y ∧ rwQ W y := by
  obtain ⟨c0, rfl⟩ : ∃ c0, x = [c0] := by obtain ⟨a_, l_, k_, h_, _⟩ := Tr.slice Try.underlying22 hx; exact ⟨_, h_⟩
  obtain ⟨y_a, y_len, y_cap, hx_, y_hlen, y_l, y_q, y_h⟩ := Tr.ones (Value.int .i64) (fun n => (-9223372036854775808) ≤ n ∧ n ≤ 9223372036854775807) Try.underlying22 hx (fun x hx => by obtain ⟨n, h1, h2⟩ := Tr.int Try.underlying3 hx; exact ⟨n, h1, by simpa [IntKind.min, IntKind.max, IntKind.signed, IntKind.bits] using h2⟩)
  obtain rfl : c0 = _ := by simpa using hx_
  clear hx_
  have y_cp := Tr.cap Try.underlying22 hx
  exact ⟨⟨y_a, y_len, y_cap, y_l⟩, rfl, ⟨y_cp, y_h, y_q, trivial⟩⟩
set_option maxRecDepth 100000 in
theorem lifted (os : Os) (started : os.Started) (H : Type) (enc : TypeId × Value → H) :
    ReturnsInHanded {} Try.checked os 10 .any (Rows.surfaceColumnsSpec.pre6 enc Try.prog Try.f10 Rows.surfaceColumnsRow.domain false) (Rows.surfaceColumnsSpec.post enc Try.prog Try.f10 false true false false) := by
  refine returnsInHanded_of_change (C := Try.checked) own started (by kernel_rfl) Try.func10
    (ChangeSpec.witness6 (enc := enc) (C := Try.checked) false ⟨#[], #[.agg #[.slice none 0 0, .slice none 0 0, .slice none 0 0], .int .i64 0, .int .i64 0], []⟩ 8 (by kernel_rfl) (by kernel_rfl) (by kernel_rfl) (by kernel_rfl)) ?_
  intro W base args ds gs before hval0 hW hcnd _
  have hval : ∀ (j : Nat) t v, Try.f10.params[j]? = some t → args[j]? = some v → Value.okWide Try.prog W .any base t v := hval0
  have hW' := hW
  obtain ⟨p, q, hA0, hV, rfl, hfz, hnd⟩ := hW
  have hA : DataW.TrodAll enc Try.prog W 0 (fun _ => true) true Try.f10.params.toList args.toList ds p := hA0
  rw [Try.params10] at hA hval
  obtain ⟨v0, vs0, d0, ds0, p0, q0, hargs, rfl, rfl, h0, r0⟩ := trodAll_cons hA
  obtain ⟨v1, vs1, d1, ds1, p1, q1, rfl, rfl, rfl, h1, r1⟩ := trodAll_cons r0
  obtain ⟨v2, vs2, d2, ds2, p2, q2, rfl, rfl, rfl, h2, r2⟩ := trodAll_cons r1
  obtain ⟨rfl, rfl, rfl⟩ := trodAll_nil r2
  obtain rfl : args = #[v0, v1, v2] := by cases args; simp_all
  obtain ⟨rfl, rfl⟩ := trodVars_none hV
  have k0 := h0
  have lt0 : ∀ x ∈ p0, x.block < W.heap.size := by obtain ⟨m, hm⟩ := k0; exact DataW.trod_lt m _ _ _ hm
  obtain ⟨cs0, rfl, hs0⟩ := okWide_struct Try.underlying25 (hval 0 25 v0 rfl rfl)
  obtain ⟨m_c0, m_c1, m_c2, rfl⟩ := arr3 (hs0.trans (show Try.prog.cellsOf 25 = 3 by kernel_rfl))
  have t0 : Tr enc Try.prog W 25 [m_c0, m_c1, m_c2] := Tr.of h0
  have hf_m_0 : Tr enc Try.prog W 22 [m_c0] := (Tr.struct Try.underlying25 t0).2 0 _ rfl
  have hf_m_1 : Tr enc Try.prog W 22 [m_c1] := (Tr.struct Try.underlying25 t0).2 1 _ rfl
  have hf_m_2 : Tr enc Try.prog W 23 [m_c2] := (Tr.struct Try.underlying25 t0).2 2 _ rfl
  obtain ⟨m_X_a, m_X_len, m_X_cap, hx_, m_X_hlen, m_X_l, m_X_q, m_X_h⟩ := Tr.ones (Value.int .i64) (fun n => (-9223372036854775808) ≤ n ∧ n ≤ 9223372036854775807) Try.underlying22 hf_m_0 (fun x hx => by obtain ⟨n, h1, h2⟩ := Tr.int Try.underlying3 hx; exact ⟨n, h1, by simpa [IntKind.min, IntKind.max, IntKind.signed, IntKind.bits] using h2⟩)
  obtain rfl : m_c0 = _ := by simpa using hx_
  clear hx_
  have m_X_cp := Tr.cap Try.underlying22 hf_m_0
  clear hf_m_0
  obtain ⟨m_Y_a, m_Y_len, m_Y_cap, hx_, m_Y_hlen, m_Y_l, m_Y_q, m_Y_h⟩ := Tr.ones (Value.int .i64) (fun n => (-9223372036854775808) ≤ n ∧ n ≤ 9223372036854775807) Try.underlying22 hf_m_1 (fun x hx => by obtain ⟨n, h1, h2⟩ := Tr.int Try.underlying3 hx; exact ⟨n, h1, by simpa [IntKind.min, IntKind.max, IntKind.signed, IntKind.bits] using h2⟩)
  obtain rfl : m_c1 = _ := by simpa using hx_
  clear hx_
  have m_Y_cp := Tr.cap Try.underlying22 hf_m_1
  clear hf_m_1
  obtain ⟨m_Z_a, m_Z_len, m_Z_cap, hx_, m_Z_hlen, m_Z_l, m_Z_ln, m_Z_q, m_Z_h⟩ := Tr.list (rwE) (rwQ W) Try.underlying23 hf_m_2 el22
  obtain rfl : m_c2 = _ := by simpa using hx_
  clear hx_
  have m_Z_cp := Tr.cap Try.underlying23 hf_m_2
  clear hf_m_2
  have k1 := h1
  have lt1 : ∀ x ∈ p1, x.block < W.heap.size := by obtain ⟨m, hm⟩ := k1; exact DataW.trod_lt m _ _ _ hm
  obtain ⟨x, rfl, rfl, rfl, x_w⟩ := open_int Try.underlying3 (hval 1 3 v1 rfl rfl) h1
  have x_b := bounds_i64 x_w
  have k2 := h2
  have lt2 : ∀ x ∈ p2, x.block < W.heap.size := by obtain ⟨m, hm⟩ := k2; exact DataW.trod_lt m _ _ _ hm
  obtain ⟨y, rfl, rfl, rfl, y_w⟩ := open_int Try.underlying3 (hval 2 3 v2 rfl rfl) h2
  have y_b := bounds_i64 y_w
  clear hA0 hval0
  have hw := lawcolumns_any (⟨m_X_a, m_X_len, m_X_cap, m_X_l, m_Y_a, m_Y_len, m_Y_cap, m_Y_l, m_Z_a, m_Z_len, m_Z_cap, m_Z_l⟩ : Mp) x y W ⟨m_X_cp, m_X_h, m_X_q, m_Y_cp, m_Y_h, m_Y_q, m_Z_cp, ⟨m_Z_ln, fun _ => rfl, by decide, m_Z_h⟩, m_Z_q, trivial⟩
  refine Calls.mono hw fun e W' he => ?_
  obtain ⟨_, rfl, rfl, hS⟩ := he
  have bel := hS.below
  exact ⟨_, rfl, _, _, _, [], _, [], hW', trodAll_mk1 (shut_bool Try.underlying4 _), (trodAll_cons_mk (Below.trod laidOut (by kernel_rfl) (of_decide_eq_true (by kernel_rfl)) k0 bel lt0) (trodAll_cons_mk (Below.trod laidOut (by kernel_rfl) (of_decide_eq_true (by kernel_rfl)) k1 bel lt1) (trodAll_cons_mk (Below.trod laidOut (by kernel_rfl) (of_decide_eq_true (by kernel_rfl)) k2 bel lt2) trodAll_mk0))), rfl, bel.frame _, fun h => by cases h⟩

theorem over : Rows.surfaceColumnsRow.holds Try.pinned (OpenSpec.ofChange Rows.surfaceColumnsSpec) :=
  OpenClaim.holds_of_wide 10 Try.f10 rfl rfl rfl rfl rfl rfl rfl ⟨rfl, rfl, rfl, rfl, rfl⟩ rfl rfl rfl rfl rfl (by kernel_rfl) Try.func10 (by kernel_rfl)
    (of_decide_eq_true (by kernel_rfl)) (by unfold Func.isWrapper; first | (rw [if_pos (by decide +kernel)]; kernel_rfl) | (rw [if_neg (by decide +kernel)]; exact ⟨rfl, rfl⟩))
    (fun os started H enc _ => lifted os started H enc)

theorem proved : Rows.SurfaceColumnsSaid := over
#print axioms proved
end Go.Proofs.Ytempepmfifljmaa.surfaceColumns
