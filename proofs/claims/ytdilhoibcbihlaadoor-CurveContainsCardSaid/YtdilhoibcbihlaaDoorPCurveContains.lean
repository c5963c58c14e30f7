/- The given statement CurveContainsSaid, proved: the law returns true whatever its arguments, and leaves them as they were. Conditions: none beyond the statement's own. -/
import Derived.Test.YtdilhoibcbihlaaDoorRows
import Derived.Test.YtdilhoibcbihlaaDoorEng6
import Derived.Test.YtdilhoibcbihlaaDoorV22
import Derived.WalkKit
import Derived.ProofKit
import Derived.Test.YtdilhoibcbihlaaDoorTie
import Derived.Test.YtdilhoibcbihlaaDoorCards
import Derived.LaidMore
import Derived.MakeChecks
import Derived.Stop.LaidErr
import Derived.Stop.Joined
import Derived.SevenTiedAt
import Derived.OpenShut
import Derived.ShutString
import Derived.ChangeOld
import Derived.Below
namespace Go.Proofs.YtdilhoibcbihlaaDoor.curveContains
open Go.ChangeShapes Go.WideShapes Go.ChangeAt Go.RowKit Go.Eng
open Go.ChangeMaps (open_string shut_string)
set_option linter.unusedVariables false
set_option linter.unusedSimpArgs false

theorem own : ownKnob Tryd.prog.godebug = none := by kernel_rfl
theorem laidOut : laidOutB Tryd.prog = true := by kernel_rfl
theorem arr2 {cs : Array Value} (h : cs.size = 2) : ∃ c0 c1, cs = #[c0, c1] := by
  obtain ⟨l⟩ := cs
  match l, h with
  | [c0, c1], _ => exact ⟨c0, c1, rfl⟩

def laid : List (String × DataW Unit) := Rows.curveContainsRow.laid
theorem door_met (os : Os) (args : Array Value) : laidMetH Tryd.prog laid ((World.doorLaid Tryd.prog 24 os).forCall (fun _ _ => 0) ⟨#[], args, []⟩).memory :=
  laidMetH_of_parts3 (fuel := 8) (laidMet_of_run' 8 (by kernel_rfl) (by kernel_rfl)) (by kernel_rfl) (by kernel_rfl)
theorem of_laid {W : World} (h : laidMetH Tryd.prog laid W) : TabW W := by
  rw [MakeChecks.laidMetH_plain _ _ _ (by kernel_rfl)] at h
  have h2 : laidMet Tryd.prog (laid.drop 2) W := h.tail.tail
  rw [show laid.drop 2 = ("internal/strconv.uint64pow10", Lib.tabData .u64 Lib.pow10Tab) :: laid.drop 3 by kernel_rfl] at h2
  exact Lib.tabIs_of_head (g := 3) (by kernel_rfl) (by kernel_rfl) Tryd.underlying112 Tryd.underlying80 (by kernel_rfl) (by kernel_rfl) h2

set_option maxRecDepth 100000 in
theorem lifted (os : Os) (started : os.Started) (H : Type) (enc : TypeId × Value → H) :
    ReturnsInHanded {} Tryd.checked os 5 .any (fun w args => (Rows.curveContainsSpec.pre enc Tryd.prog Tryd.f5 [] false w args ∧ laidMetH Tryd.prog laid w) ∧ sizedMet enc Tryd.prog Tryd.f5 (OpenSpec.ofChange Rows.curveContainsSpec) false w args) (Rows.curveContainsSpec.post enc Tryd.prog Tryd.f5 false true false false) := by
  refine returnsInHanded_of_change_and (C := Tryd.checked) (X := fun w _ => laidMetH Tryd.prog laid w) (fun _ _ _ hh h => h.of_heap hh) own started (by kernel_rfl) Tryd.func5
    (ChangeSpec.witness_shaped (enc := enc) (C := Tryd.checked) (os := os) (X := fun w _ => laidMetH Tryd.prog laid w) false (World.doorLaid Tryd.prog 24 os) #[.agg #[.slice none 0 0, .slice none 0 0], .agg #[.int .i64 0, .int .i64 0], .int .i64 0, .int .u8 0] 8 rfl (World.shaped_of_RefB (by kernel_rfl) (by kernel_rfl)) (by kernel_rfl) (by kernel_rfl) (by kernel_rfl) (door_met os _)) ?_
  intro W base args ds gs before hval0 hW _ _ hL _
  have hval : ∀ (j : Nat) t v, Tryd.f5.params[j]? = some t → args[j]? = some v → Value.okWide Tryd.prog W .any base t v := hval0
  have hW' := hW
  obtain ⟨p, q, hA0, hV, rfl, hfz, hnd⟩ := hW
  have hA : DataW.TrodAll enc Tryd.prog W 0 (fun _ => true) true Tryd.f5.params.toList args.toList ds p := hA0
  rw [Tryd.params5] at hA hval
  obtain ⟨v0, vs0, d0, ds0, p0, q0, hargs, rfl, rfl, h0, r0⟩ := trodAll_cons hA
  obtain ⟨v1, vs1, d1, ds1, p1, q1, rfl, rfl, rfl, h1, r1⟩ := trodAll_cons r0
  obtain ⟨v2, vs2, d2, ds2, p2, q2, rfl, rfl, rfl, h2, r2⟩ := trodAll_cons r1
  obtain ⟨v3, vs3, d3, ds3, p3, q3, rfl, rfl, rfl, h3, r3⟩ := trodAll_cons r2
  obtain ⟨rfl, rfl, rfl⟩ := trodAll_nil r3
  obtain rfl : args = #[v0, v1, v2, v3] := by cases args; simp_all
  obtain ⟨rfl, rfl⟩ := trodVars_none hV
  have k0 := h0
  have lt0 : ∀ x ∈ p0, x.block < W.heap.size := by obtain ⟨m, hm⟩ := k0; exact DataW.trod_lt m _ _ _ hm
  obtain ⟨cs0, rfl, hs0⟩ := okWide_struct Tryd.underlying24 (hval 0 24 v0 rfl rfl)
  obtain ⟨c_c0, c_c1, rfl⟩ := arr2 (hs0.trans (show Tryd.prog.cellsOf 24 = 2 by kernel_rfl))
  have t0 : Tr enc Tryd.prog W 24 [c_c0, c_c1] := Tr.of h0
  have hf_c_0 : Tr enc Tryd.prog W 22 [c_c0] := (Tr.struct Tryd.underlying24 t0).2 0 _ rfl
  have hf_c_1 : Tr enc Tryd.prog W 22 [c_c1] := (Tr.struct Tryd.underlying24 t0).2 1 _ rfl
  obtain ⟨c_X_a, c_X_len, c_X_cap, hx_, c_X_hlen, c_X_l, c_X_q, c_X_h⟩ := Tr.ones (Value.int .i64) (fun n => (-9223372036854775808) ≤ n ∧ n ≤ 9223372036854775807) Tryd.underlying22 hf_c_0 (fun x hx => by obtain ⟨n, h1, h2⟩ := Tr.int Tryd.underlying3 hx; exact ⟨n, h1, by simpa [IntKind.min, IntKind.max, IntKind.signed, IntKind.bits] using h2⟩)
  obtain rfl : c_c0 = _ := by simpa using hx_
  clear hx_
  have c_X_cp := Tr.cap Tryd.underlying22 hf_c_0
  clear hf_c_0
  obtain ⟨c_Y_a, c_Y_len, c_Y_cap, hx_, c_Y_hlen, c_Y_l, c_Y_q, c_Y_h⟩ := Tr.ones (Value.int .i64) (fun n => (-9223372036854775808) ≤ n ∧ n ≤ 9223372036854775807) Tryd.underlying22 hf_c_1 (fun x hx => by obtain ⟨n, h1, h2⟩ := Tr.int Tryd.underlying3 hx; exact ⟨n, h1, by simpa [IntKind.min, IntKind.max, IntKind.signed, IntKind.bits] using h2⟩)
  obtain rfl : c_c1 = _ := by simpa using hx_
  clear hx_
  have c_Y_cp := Tr.cap Tryd.underlying22 hf_c_1
  clear hf_c_1
  have k1 := h1
  have lt1 : ∀ x ∈ p1, x.block < W.heap.size := by obtain ⟨m, hm⟩ := k1; exact DataW.trod_lt m _ _ _ hm
  obtain ⟨cs1, rfl, hs1⟩ := okWide_struct Tryd.underlying26 (hval 1 26 v1 rfl rfl)
  obtain ⟨r_c0, r_c1, rfl⟩ := arr2 (hs1.trans (show Tryd.prog.cellsOf 26 = 2 by kernel_rfl))
  have t1 : Tr enc Tryd.prog W 26 [r_c0, r_c1] := Tr.of h1
  have hf_r_0 : Tr enc Tryd.prog W 3 [r_c0] := (Tr.struct Tryd.underlying26 t1).2 0 _ rfl
  have hf_r_1 : Tr enc Tryd.prog W 3 [r_c1] := (Tr.struct Tryd.underlying26 t1).2 1 _ rfl
  obtain ⟨r_Low, hx_, r_Low_b0⟩ := Tr.int Tryd.underlying3 hf_r_0
  obtain rfl : r_c0 = _ := by simpa using hx_
  clear hx_
  have r_Low_b : (-9223372036854775808) ≤ r_Low ∧ r_Low ≤ 9223372036854775807 := by simpa [IntKind.min, IntKind.max, IntKind.signed, IntKind.bits] using r_Low_b0
  clear r_Low_b0
  clear hf_r_0
  obtain ⟨r_High, hx_, r_High_b0⟩ := Tr.int Tryd.underlying3 hf_r_1
  obtain rfl : r_c1 = _ := by simpa using hx_
  clear hx_
  have r_High_b : (-9223372036854775808) ≤ r_High ∧ r_High ≤ 9223372036854775807 := by simpa [IntKind.min, IntKind.max, IntKind.signed, IntKind.bits] using r_High_b0
  clear r_High_b0
  clear hf_r_1
  have k2 := h2
  have lt2 : ∀ x ∈ p2, x.block < W.heap.size := by obtain ⟨m, hm⟩ := k2; exact DataW.trod_lt m _ _ _ hm
  obtain ⟨x, rfl, rfl, rfl, x_w⟩ := open_int Tryd.underlying3 (hval 2 3 v2 rfl rfl) h2
  have x_b := bounds_i64 x_w
  have k3 := h3
  have lt3 : ∀ x ∈ p3, x.block < W.heap.size := by obtain ⟨m, hm⟩ := k3; exact DataW.trod_lt m _ _ _ hm
  obtain ⟨k, rfl, rfl, rfl, k_w⟩ := open_int Tryd.underlying5 (hval 3 5 v3 rfl rfl) h3
  have k_b := bounds_u8 k_w
  clear hA0 hval0
  have hw := lawcontains_any (⟨c_X_a, c_X_len, c_X_cap, c_X_l, c_Y_a, c_Y_len, c_Y_cap, c_Y_l⟩ : Crv) r_Low r_High x k W ⟨c_X_cp, c_X_h, c_X_q, c_Y_cp, c_Y_h, c_Y_q, trivial⟩ (of_laid hL)
  refine Calls.mono hw fun e W' he => ?_
  obtain ⟨_, rfl, rfl, hS⟩ := he
  have bel := hS.below
  exact ⟨_, rfl, _, _, _, [], _, [], hW', trodAll_mk1 (shut_bool Tryd.underlying4 _), (trodAll_cons_mk (Below.trod laidOut (by kernel_rfl) (of_decide_eq_true (by kernel_rfl)) k0 bel lt0) (trodAll_cons_mk (Below.trod laidOut (by kernel_rfl) (of_decide_eq_true (by kernel_rfl)) k1 bel lt1) (trodAll_cons_mk (Below.trod laidOut (by kernel_rfl) (of_decide_eq_true (by kernel_rfl)) k2 bel lt2) (trodAll_cons_mk (Below.trod laidOut (by kernel_rfl) (of_decide_eq_true (by kernel_rfl)) k3 bel lt3) trodAll_mk0)))), rfl, bel.frame _, fun h => by cases h⟩

theorem over : Rows.curveContainsRow.holds Tryd.pinned (OpenSpec.ofChange Rows.curveContainsSpec) :=
  OpenClaim.holds_of_wide 5 Tryd.f5 rfl rfl rfl rfl rfl rfl rfl ⟨rfl, rfl, rfl, rfl, rfl⟩ rfl rfl rfl rfl rfl (by kernel_rfl) Tryd.func5 (by kernel_rfl)
    (of_decide_eq_true (by kernel_rfl)) (by unfold Func.isWrapper; first | (rw [if_pos (by decide +kernel)]; kernel_rfl) | (rw [if_neg (by decide +kernel)]; exact ⟨rfl, rfl⟩))
    (fun os started H enc _ => lifted os started H enc)

theorem proved : Rows.CurveContainsCardSaid :=
  Claim7.holds_tied_plain_at .later [] [.data, .data, .data] true (true, "6daa0ef3024de62495e2e604f1bda261b42bd14130864e47cba5c3928014b078") false over (fun _ h => by cases h) (by kernel_rfl) (fun _ h => by cases h) curveContains_row_tie rfl ⟨rfl, rfl⟩ (by kernel_rfl) rfl
    (fun f fn hf hfn => by
      obtain rfl : f = 5 := Option.some.inj ((show Tryd.prog.funcNamed Rows.curveContainsRow.func = some 5 by kernel_rfl).symm.trans hf) |>.symm
      obtain rfl : fn = Tryd.f5 := (Option.some.inj (Tryd.func5.symm.trans hfn)).symm
      exact ⟨by kernel_rfl, fun j t ht => by
        rw [Tryd.params5] at ht
        have hm : t ∈ [24, 26, 3, 5] := by have := Array.mem_of_getElem? ht; simpa [or_comm, or_left_comm] using this
        have hall : ([24, 26, 3, 5].all fun u => !Tryd.prog.wantsStandIn u) = true := by kernel_rfl
        exact (show Tryd.prog.wantsStandIn t = false by simpa using List.all_eq_true.1 hall t hm)⟩)
    (by kernel_rfl)
#print axioms proved
end Go.Proofs.YtdilhoibcbihlaaDoor.curveContains
