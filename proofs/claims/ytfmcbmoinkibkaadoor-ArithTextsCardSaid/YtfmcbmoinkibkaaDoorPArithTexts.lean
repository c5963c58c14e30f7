/- The given statement ArithTextsSaid, proved: the law returns true whatever its arguments, and leaves them as they were. Conditions: none beyond the statement's own. -/
import Derived.Test.YtfmcbmoinkibkaaDoorRows
import Derived.Test.YtfmcbmoinkibkaaDoorEng6
import Derived.Test.YtfmcbmoinkibkaaDoorT8
import Derived.WalkKit
import Derived.ProofKit
import Derived.Test.YtfmcbmoinkibkaaDoorTie
import Derived.Test.YtfmcbmoinkibkaaDoorCards
import Derived.LaidMore
import Derived.MakeChecks
import Derived.Stop.LaidErr
import Derived.Stop.Joined
import Derived.SevenTiedAt
import Derived.OpenShut
import Derived.ShutString
import Derived.ChangeOld
import Derived.Below
namespace Go.Proofs.YtfmcbmoinkibkaaDoor.arithTexts
open Go.ChangeShapes Go.WideShapes Go.ChangeAt Go.RowKit Go.Eng
open Go.ChangeMaps (open_string shut_string)
set_option linter.unusedVariables false
set_option linter.unusedSimpArgs false

theorem own : ownKnob Tryd.prog.godebug = none := by kernel_rfl
theorem laidOut : laidOutB Tryd.prog = true := by kernel_rfl

def laid : List (String × DataW Unit) := Rows.arithTextsRow.laid
theorem door_met (os : Os) (args : Array Value) : laidMetH Tryd.prog laid ((World.doorLaid Tryd.prog 62 os).forCall (fun _ _ => 0) ⟨#[], args, []⟩).memory :=
  laidMetH_of_parts3 (fuel := 8) (laidMet_of_run' 8 (by kernel_rfl) (by kernel_rfl)) (by kernel_rfl) (by kernel_rfl)
theorem starE : "*" ++ "errors.errorString" = "*errors.errorString" := by decide
theorem rowE (u : TypeId) (h : Tryd.prog.typeName? 3 u = some "*errors.errorString") : u = 75 :=
  typeName_ptr_named (nm := "errors.errorString") (by rw [starE]; kernel_rfl) (by kernel_rfl) (by decide) u (by rw [starE]; exact h)
theorem errW0 {W : World} (h : laidMet Tryd.prog laid W) : ErrW W 2 := by
  have h2 : laidMet Tryd.prog (laid.drop 4) W := h.tail.tail.tail.tail
  rw [show laid.drop 4 = ("strconv.ErrSyntax", .iface "*errors.errorString" (.ptr (.agg [.lit (.string [105, 110, 118, 97, 108, 105, 100, 32, 115, 121, 110, 116, 97, 120])]))) :: laid.drop 5 by kernel_rfl] at h2
  obtain ⟨a0, s0, hv0, -, -, -⟩ := laid_sentinel (g := 2) (ti := 35) (tp := 75) (te := 77) (ts := 9) h2 (by kernel_rfl) (by kernel_rfl) Tryd.underlying35 rowE Tryd.underlying75 Tryd.underlying77 rfl rfl Tryd.underlying9 (by kernel_rfl) (by kernel_rfl)
  exact ⟨_, by have h0 := World.var?_cell (g := 2) (by kernel_rfl) hv0 0; simpa using h0, .inr ⟨_, _, rfl⟩⟩
theorem errW1 {W : World} (h : laidMet Tryd.prog laid W) : ErrW W 3 := by
  have h2 : laidMet Tryd.prog (laid.drop 3) W := h.tail.tail.tail
  rw [show laid.drop 3 = ("strconv.ErrRange", .iface "*errors.errorString" (.ptr (.agg [.lit (.string [118, 97, 108, 117, 101, 32, 111, 117, 116, 32, 111, 102, 32, 114, 97, 110, 103, 101])]))) :: laid.drop 4 by kernel_rfl] at h2
  obtain ⟨a0, s0, hv0, -, -, -⟩ := laid_sentinel (g := 3) (ti := 35) (tp := 75) (te := 77) (ts := 9) h2 (by kernel_rfl) (by kernel_rfl) Tryd.underlying35 rowE Tryd.underlying75 Tryd.underlying77 rfl rfl Tryd.underlying9 (by kernel_rfl) (by kernel_rfl)
  exact ⟨_, by have h0 := World.var?_cell (g := 3) (by kernel_rfl) hv0 0; simpa using h0, .inr ⟨_, _, rfl⟩⟩
theorem of_laid {W : World} (h : laidMetH Tryd.prog laid W) : TabW W := by
  rw [MakeChecks.laidMetH_plain _ _ _ (by kernel_rfl)] at h
  have h2 : laidMet Tryd.prog (laid.drop 2) W := h.tail.tail
  rw [show laid.drop 2 = ("internal/strconv.uint64pow10", Lib.tabData .u64 Lib.pow10Tab) :: laid.drop 3 by kernel_rfl] at h2
  have ht := Lib.tabIs_of_head (g := 4) (by kernel_rfl) (by kernel_rfl) Tryd.underlying67 Tryd.underlying38 (by kernel_rfl) (by kernel_rfl) h2
  exact ⟨ht, errW0 h, errW1 h⟩

set_option maxRecDepth 100000 in
theorem lifted (os : Os) (started : os.Started) (H : Type) (enc : TypeId × Value → H) :
    ReturnsInHanded {} Tryd.checked os 3 .any (fun w args => (Rows.arithTextsSpec.pre enc Tryd.prog Tryd.f3 [] false w args ∧ laidMetH Tryd.prog laid w) ∧ sizedMet enc Tryd.prog Tryd.f3 (OpenSpec.ofChange Rows.arithTextsSpec) false w args) (Rows.arithTextsSpec.post enc Tryd.prog Tryd.f3 false true false false) := by
  refine returnsInHanded_of_change_and (C := Tryd.checked) (X := fun w _ => laidMetH Tryd.prog laid w) (fun _ _ _ hh h => h.of_heap hh) own started (by kernel_rfl) Tryd.func3
    (ChangeSpec.witness_shaped (enc := enc) (C := Tryd.checked) (os := os) (X := fun w _ => laidMetH Tryd.prog laid w) false (World.doorLaid Tryd.prog 62 os) #[.int .i64 0, .string ByteArray.empty] 8 rfl (World.shaped_of_RefB (by kernel_rfl) (by kernel_rfl)) (by kernel_rfl) (by kernel_rfl) (by kernel_rfl) (door_met os _)) ?_
  intro W base args ds gs before hval0 hW _ _ hL _
  have hval : ∀ (j : Nat) t v, Tryd.f3.params[j]? = some t → args[j]? = some v → Value.okWide Tryd.prog W .any base t v := hval0
  have hW' := hW
  obtain ⟨p, q, hA0, hV, rfl, hfz, hnd⟩ := hW
  have hA : DataW.TrodAll enc Tryd.prog W 0 (fun _ => true) true Tryd.f3.params.toList args.toList ds p := hA0
  rw [Tryd.params3] at hA hval
  obtain ⟨v0, vs0, d0, ds0, p0, q0, hargs, rfl, rfl, h0, r0⟩ := trodAll_cons hA
  obtain ⟨v1, vs1, d1, ds1, p1, q1, rfl, rfl, rfl, h1, r1⟩ := trodAll_cons r0
  obtain ⟨rfl, rfl, rfl⟩ := trodAll_nil r1
  obtain rfl : args = #[v0, v1] := by cases args; simp_all
  obtain ⟨rfl, rfl⟩ := trodVars_none hV
  have k0 := h0
  have lt0 : ∀ x ∈ p0, x.block < W.heap.size := by obtain ⟨m, hm⟩ := k0; exact DataW.trod_lt m _ _ _ hm
  obtain ⟨n, rfl, rfl, rfl, n_w⟩ := open_int Tryd.underlying3 (hval 0 3 v0 rfl rfl) h0
  have n_b := bounds_i64 n_w
  have k1 := h1
  have lt1 : ∀ x ∈ p1, x.block < W.heap.size := by obtain ⟨m, hm⟩ := k1; exact DataW.trod_lt m _ _ _ hm
  obtain ⟨s, rfl, rfl, rfl, s_w⟩ := open_string Tryd.underlying9 (hval 1 9 v1 rfl rfl) h1
  have s_b : s.size ≤ 9223372036854775807 := by simpa [maxLen] using s_w
  clear hA0 hval0
  have hw := lawtexts_any n s W n_b (of_laid hL)
  refine Calls.mono hw fun e W' he => ?_
  obtain ⟨_, rfl, rfl, hS⟩ := he
  have bel := hS.below
  exact ⟨_, rfl, _, _, _, [], _, [], hW', trodAll_mk1 (shut_bool Tryd.underlying4 _), (trodAll_cons_mk (Below.trod laidOut (by kernel_rfl) (of_decide_eq_true (by kernel_rfl)) k0 bel lt0) (trodAll_cons_mk (Below.trod laidOut (by kernel_rfl) (of_decide_eq_true (by kernel_rfl)) k1 bel lt1) trodAll_mk0)), rfl, bel.frame _, fun h => by cases h⟩

theorem over : Rows.arithTextsRow.holds Tryd.pinned (OpenSpec.ofChange Rows.arithTextsSpec) :=
  OpenClaim.holds_of_wide 3 Tryd.f3 rfl rfl rfl rfl rfl rfl rfl ⟨rfl, rfl, rfl, rfl, rfl⟩ rfl rfl rfl rfl rfl (by kernel_rfl) Tryd.func3 (by kernel_rfl)
    (of_decide_eq_true (by kernel_rfl)) (by unfold Func.isWrapper; first | (rw [if_pos (by decide +kernel)]; kernel_rfl) | (rw [if_neg (by decide +kernel)]; exact ⟨rfl, rfl⟩))
    (fun os started H enc _ => lifted os started H enc)

theorem proved : Rows.ArithTextsCardSaid :=
  Claim7.holds_tied_plain_at .later [] [.data, .data, .data, .sentinel, .sentinel] true (true, "e6f0049f2890b23dbdd28e96f58be0cc0c008aa8c8e2e6fa23939df8e95781b5") true over (fun _ h => by cases h) (by kernel_rfl) (fun _ h => by cases h) arithTexts_row_tie rfl ⟨rfl, rfl⟩ (by kernel_rfl) rfl
    (fun f fn hf hfn => by
      obtain rfl : f = 3 := Option.some.inj ((show Tryd.prog.funcNamed Rows.arithTextsRow.func = some 3 by kernel_rfl).symm.trans hf) |>.symm
      obtain rfl : fn = Tryd.f3 := (Option.some.inj (Tryd.func3.symm.trans hfn)).symm
      exact ⟨by kernel_rfl, fun j t ht => by
        rw [Tryd.params3] at ht
        have hm : t ∈ [3, 9] := by have := Array.mem_of_getElem? ht; simpa [or_comm, or_left_comm] using this
        have hall : ([3, 9].all fun u => !Tryd.prog.wantsStandIn u) = true := by kernel_rfl
        exact (show Tryd.prog.wantsStandIn t = false by simpa using List.all_eq_true.1 hall t hm)⟩)
    (by kernel_rfl)
#print axioms proved
end Go.Proofs.YtfmcbmoinkibkaaDoor.arithTexts
