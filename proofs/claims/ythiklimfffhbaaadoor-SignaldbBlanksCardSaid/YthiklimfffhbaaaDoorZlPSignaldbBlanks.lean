/- The given statement SignaldbBlanksSaid, proved: the law returns true whatever its arguments, and leaves them as they were. Conditions: none beyond the statement's own. -/
import Derived.Test.YthiklimfffhbaaaDoorRows
import Derived.Test.YthiklimfffhbaaaDoorZlEng6
import Derived.Test.YthiklimfffhbaaaDoorZlP28
import Derived.WalkKit
import Derived.ProofKit
import Derived.Test.YthiklimfffhbaaaDoorTie
import Derived.Test.YthiklimfffhbaaaDoorCards
import Derived.LaidMore
import Derived.MakeChecks
import Derived.Stop.LaidErr
import Derived.Stop.Joined
import Derived.SevenTiedAt
import Derived.Lay
import Derived.Shelf.Vars
import Derived.OpenShut
import Derived.ShutString
import Derived.ChangeOld
import Derived.Below
namespace Go.Proofs.YthiklimfffhbaaaDoor.signaldbBlanks
open Go.ChangeShapes Go.WideShapes Go.ChangeAt Go.RowKit Go.Eng
open Go.ChangeMaps (open_string shut_string)
set_option linter.unusedVariables false
set_option linter.unusedSimpArgs false

theorem own : ownKnob Tryd.prog.godebug = none := by kernel_rfl
theorem laidOut : laidOutB Tryd.prog = true := by kernel_rfl

def laid : List (String × DataW Unit) := Rows.signaldbBlanksRow.laid
theorem starE : "*" ++ "errors.errorString" = "*errors.errorString" := by decide
theorem rowE (u : TypeId) (h : Tryd.prog.typeName? 3 u = some "*errors.errorString") : u = 164 :=
  typeName_ptr_named (nm := "errors.errorString") (by rw [starE]; kernel_rfl) (by kernel_rfl) (by decide) u (by rw [starE]; exact h)
theorem errW0 {W : World} (h : laidMet Tryd.prog laid W) : ErrW W 4 := by
  have h2 : laidMet Tryd.prog (laid.drop 5) W := h.tail.tail.tail.tail.tail
  rw [show laid.drop 5 = ("strconv.ErrSyntax", .iface "*errors.errorString" (.ptr (.agg [.lit (.string [105, 110, 118, 97, 108, 105, 100, 32, 115, 121, 110, 116, 97, 120])]))) :: laid.drop 6 by kernel_rfl] at h2
  obtain ⟨a0, s0, hv0, -, -, -⟩ := laid_sentinel (g := 4) (ti := 70) (tp := 164) (te := 166) (ts := 9) h2 (by kernel_rfl) (by kernel_rfl) Tryd.underlying70 rowE Tryd.underlying164 Tryd.underlying166 rfl rfl Tryd.underlying9 (by kernel_rfl) (by kernel_rfl)
  exact ⟨_, by have h0 := World.var?_cell (g := 4) (by kernel_rfl) hv0 0; simpa using h0, .inr ⟨_, _, rfl⟩⟩
theorem errW1 {W : World} (h : laidMet Tryd.prog laid W) : ErrW W 5 := by
  have h2 : laidMet Tryd.prog (laid.drop 4) W := h.tail.tail.tail.tail
  rw [show laid.drop 4 = ("strconv.ErrRange", .iface "*errors.errorString" (.ptr (.agg [.lit (.string [118, 97, 108, 117, 101, 32, 111, 117, 116, 32, 111, 102, 32, 114, 97, 110, 103, 101])]))) :: laid.drop 5 by kernel_rfl] at h2
  obtain ⟨a0, s0, hv0, -, -, -⟩ := laid_sentinel (g := 5) (ti := 70) (tp := 164) (te := 166) (ts := 9) h2 (by kernel_rfl) (by kernel_rfl) Tryd.underlying70 rowE Tryd.underlying164 Tryd.underlying166 rfl rfl Tryd.underlying9 (by kernel_rfl) (by kernel_rfl)
  exact ⟨_, by have h0 := World.var?_cell (g := 5) (by kernel_rfl) hv0 0; simpa using h0, .inr ⟨_, _, rfl⟩⟩
theorem of_laid {W : World} (h0 : laidMetH Tryd.prog laid W ∧ W.ShapedOpen Tryd.prog) : TabW W := by
  obtain ⟨h, hs⟩ := h0
  rw [MakeChecks.laidMetH_plain _ _ _ (by kernel_rfl)] at h
  have h2 : laidMet Tryd.prog (laid.drop 2) W := h.tail.tail
  rw [show laid.drop 2 = ("internal/strconv.uint64pow10", Lib.tabData .u64 Lib.pow10Tab) :: laid.drop 3 by kernel_rfl] at h2
  have ht := Lib.tabIs_of_head (g := 3) (by kernel_rfl) (by kernel_rfl) Tryd.underlying152 Tryd.underlying121 (by kernel_rfl) (by kernel_rfl) h2
  exact ⟨ht, errW0 h, errW1 h, Go.Proofs.cell_of_shapedOpen_int (g := 0) (t := 3) (k := .i64) (zero := #[.int .i64 0]) hs (by decide) (by kernel_rfl) (by rfl) (by kernel_rfl) (by kernel_rfl) Tryd.underlying3⟩

set_option maxRecDepth 100000 in
theorem lifted (os : Os) (started : os.Started) (H : Type) (enc : TypeId × Value → H) :
    ReturnsInHanded {} Tryd.checked os 6 .any (fun w args => (Rows.signaldbBlanksSpec.pre enc Tryd.prog Tryd.f6 [] false w args ∧ laidMetH Tryd.prog laid w) ∧ sizedMet enc Tryd.prog Tryd.f6 (OpenSpec.ofChange Rows.signaldbBlanksSpec) false w args) (Rows.signaldbBlanksSpec.post enc Tryd.prog Tryd.f6 false true false false) := by
  refine handed_shaped (C := Tryd.checked) (X := fun w _ => laidMetH Tryd.prog laid w) (fun _ _ _ hh h => h.of_heap hh) own started (by kernel_rfl) Tryd.func6
    (ChangeSpec.witness_shaped (enc := enc) (C := Tryd.checked) (os := os) (X := fun w _ => laidMetH Tryd.prog laid w) false (World.laidAll Tryd.prog os laid) #[.string ByteArray.empty, .string ByteArray.empty, .bool false] 8 (World.laidAll_os _ _ _) (World.shaped_of_ZipB (by kernel_rfl) (by kernel_rfl)) (by kernel_rfl) (by kernel_rfl) (by kernel_rfl) (by rw [MakeChecks.laidMetH_plain _ _ _ (by kernel_rfl)]; exact laidMet_laidAll _ (by kernel_rfl) (by kernel_rfl))) ?_
  intro W base args ds gs before hval0 hW hL0 hsh
  have hL := And.intro hL0 hsh
  have hval : ∀ (j : Nat) t v, Tryd.f6.params[j]? = some t → args[j]? = some v → Value.okWide Tryd.prog W .any base t v := hval0
  have hW' := hW
  obtain ⟨p, q, hA0, hV, rfl, hfz, hnd⟩ := hW
  have hA : DataW.TrodAll enc Tryd.prog W 0 (fun _ => true) true Tryd.f6.params.toList args.toList ds p := hA0
  rw [Tryd.params6] at hA hval
  obtain ⟨v0, vs0, d0, ds0, p0, q0, hargs, rfl, rfl, h0, r0⟩ := trodAll_cons hA
  obtain ⟨v1, vs1, d1, ds1, p1, q1, rfl, rfl, rfl, h1, r1⟩ := trodAll_cons r0
  obtain ⟨v2, vs2, d2, ds2, p2, q2, rfl, rfl, rfl, h2, r2⟩ := trodAll_cons r1
  obtain ⟨rfl, rfl, rfl⟩ := trodAll_nil r2
  obtain rfl : args = #[v0, v1, v2] := by cases args; simp_all
  obtain ⟨rfl, rfl⟩ := trodVars_none hV
  have k0 := h0
  have lt0 : ∀ x ∈ p0, x.block < W.heap.size := by obtain ⟨m, hm⟩ := k0; exact DataW.trod_lt m _ _ _ hm
  obtain ⟨s, rfl, rfl, rfl, s_w⟩ := open_string Tryd.underlying9 (hval 0 9 v0 rfl rfl) h0
  have s_b : s.size ≤ 9223372036854775807 := by simpa [maxLen] using s_w
  have k1 := h1
  have lt1 : ∀ x ∈ p1, x.block < W.heap.size := by obtain ⟨m, hm⟩ := k1; exact DataW.trod_lt m _ _ _ hm
  obtain ⟨comment, rfl, rfl, rfl, comment_w⟩ := open_string Tryd.underlying9 (hval 1 9 v1 rfl rfl) h1
  have comment_b : comment.size ≤ 9223372036854775807 := by simpa [maxLen] using comment_w
  have k2 := h2
  have lt2 : ∀ x ∈ p2, x.block < W.heap.size := by obtain ⟨m, hm⟩ := k2; exact DataW.trod_lt m _ _ _ hm
  obtain ⟨tabs, rfl, rfl, rfl⟩ := open_bool Tryd.underlying4 (hval 2 4 v2 rfl rfl) h2
  clear hA0 hval0
  have hw := lawblanks_any s comment tabs W s_b comment_b (of_laid hL)
  refine Calls.mono hw fun e W' he => ?_
  obtain ⟨_, rfl, rfl, hS⟩ := he
  have bel := hS.below
  exact ⟨_, rfl, _, _, _, [], _, [], hW', trodAll_mk1 (shut_bool Tryd.underlying4 _), (trodAll_cons_mk (Below.trod laidOut (by kernel_rfl) (of_decide_eq_true (by kernel_rfl)) k0 bel lt0) (trodAll_cons_mk (Below.trod laidOut (by kernel_rfl) (of_decide_eq_true (by kernel_rfl)) k1 bel lt1) (trodAll_cons_mk (Below.trod laidOut (by kernel_rfl) (of_decide_eq_true (by kernel_rfl)) k2 bel lt2) trodAll_mk0))), rfl, bel.frame _, fun h => by cases h⟩

theorem over : Rows.signaldbBlanksRow.holds Tryd.pinned (OpenSpec.ofChange Rows.signaldbBlanksSpec) :=
  OpenClaim.holds_of_wide 6 Tryd.f6 rfl rfl rfl rfl rfl rfl rfl ⟨rfl, rfl, rfl, rfl, rfl⟩ rfl rfl rfl rfl rfl (by kernel_rfl) Tryd.func6 (by kernel_rfl)
    (of_decide_eq_true (by kernel_rfl)) (by unfold Func.isWrapper; first | (rw [if_pos (by decide +kernel)]; kernel_rfl) | (rw [if_neg (by decide +kernel)]; exact ⟨rfl, rfl⟩))
    (fun os started H enc _ => lifted os started H enc)

theorem proved : Rows.SignaldbBlanksCardSaid :=
  Claim7.holds_tied_plain_at .later [] [.data, .data, .data, .data, .sentinel, .sentinel, .pinned] true (true, "44903ffafba81fbfbebc1da7cb9a2325c5735e6bc565cfc92e2425e43c85591e") true over (fun _ h => by cases h) (by kernel_rfl) (fun _ h => by cases h) signaldbBlanks_row_tie rfl ⟨rfl, rfl⟩ (by kernel_rfl) rfl
    (fun f fn hf hfn => by
      obtain rfl : f = 6 := Option.some.inj ((show Tryd.prog.funcNamed Rows.signaldbBlanksRow.func = some 6 by kernel_rfl).symm.trans hf) |>.symm
      obtain rfl : fn = Tryd.f6 := (Option.some.inj (Tryd.func6.symm.trans hfn)).symm
      exact ⟨by kernel_rfl, fun j t ht => by
        rw [Tryd.params6] at ht
        have hm : t ∈ [9, 9, 4] := by have := Array.mem_of_getElem? ht; simpa [or_comm, or_left_comm] using this
        have hall : ([9, 9, 4].all fun u => !Tryd.prog.wantsStandIn u) = true := by kernel_rfl
        exact (show Tryd.prog.wantsStandIn t = false by simpa using List.all_eq_true.1 hall t hm)⟩)
    (by kernel_rfl)
#print axioms proved
end Go.Proofs.YthiklimfffhbaaaDoor.signaldbBlanks

