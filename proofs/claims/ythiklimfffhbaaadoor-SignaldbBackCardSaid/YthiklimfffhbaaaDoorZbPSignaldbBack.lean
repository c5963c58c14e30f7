/- The given statement SignaldbBackSaid, proved: the law returns true whatever its arguments, and leaves them as they were. Conditions: none beyond the statement's own. -/
import Derived.Test.YthiklimfffhbaaaDoorRows
import Derived.Test.YthiklimfffhbaaaDoorZbEng6
import Derived.Test.YthiklimfffhbaaaDoorZbP26
import Derived.WalkKit
import Derived.ProofKit
import Derived.Test.YthiklimfffhbaaaDoorTie
import Derived.Test.YthiklimfffhbaaaDoorCards
import Derived.LaidMore
import Derived.MakeChecks
import Derived.Stop.LaidErr
import Derived.Stop.Joined
import Derived.SevenTiedAt
import Derived.Lay
import Derived.Shelf.Vars
import Derived.OpenShut
import Derived.ShutString
import Derived.ChangeOld
import Derived.Below
namespace Go.Proofs.YthiklimfffhbaaaDoor.signaldbBack
open Go.ChangeShapes Go.WideShapes Go.ChangeAt Go.RowKit Go.Eng
open Go.ChangeMaps (open_string shut_string)
set_option linter.unusedVariables false
set_option linter.unusedSimpArgs false

theorem own : ownKnob Tryd.prog.godebug = none := by kernel_rfl
theorem laidOut : laidOutB Tryd.prog = true := by kernel_rfl
theorem arr1 {cs : Array Value} (h : cs.size = 1) : ∃ c0, cs = #[c0] := by
  obtain ⟨l⟩ := cs
  match l, h with
  | [c0], _ => exact ⟨c0, rfl⟩
theorem lst10 {x : List Value} (h : x.length = 10) : ∃ c0 c1 c2 c3 c4 c5 c6 c7 c8 c9, x = [c0, c1, c2, c3, c4, c5, c6, c7, c8, c9] := by
  match x, h with
  | [c0, c1, c2, c3, c4, c5, c6, c7, c8, c9], _ => exact ⟨c0, c1, c2, c3, c4, c5, c6, c7, c8, c9, rfl⟩
set_option maxRecDepth 100000 in
theorem el57 {H : Type} {enc : TypeId × Value → H} {W : World} (x : List Value) (hx : Tr enc Tryd.prog W 57 x) : ∃ y : Sig, x = sigE y ∧ sigQ W y := by
  have hl : x.length = 10 := (Tr.struct Tryd.underlying57 hx).1.trans (show Tryd.prog.cellsOf 57 = 10 by kernel_rfl)
  obtain ⟨c0, c1, c2, c3, c4, c5, c6, c7, c8, c9, rfl⟩ := lst10 hl
  have hf_y_0 : Tr enc Tryd.prog W 9 [c0] := (Tr.struct Tryd.underlying57 hx).2 0 _ rfl
  have hf_y_1 : Tr enc Tryd.prog W 3 [c1] := (Tr.struct Tryd.underlying57 hx).2 1 _ rfl
  have hf_y_2 : Tr enc Tryd.prog W 3 [c2] := (Tr.struct Tryd.underlying57 hx).2 2 _ rfl
  have hf_y_3 : Tr enc Tryd.prog W 4 [c3] := (Tr.struct Tryd.underlying57 hx).2 3 _ rfl
  have hf_y_4 : Tr enc Tryd.prog W 4 [c4] := (Tr.struct Tryd.underlying57 hx).2 4 _ rfl
  have hf_y_5 : Tr enc Tryd.prog W 3 [c5] := (Tr.struct Tryd.underlying57 hx).2 5 _ rfl
  have hf_y_6 : Tr enc Tryd.prog W 3 [c6] := (Tr.struct Tryd.underlying57 hx).2 6 _ rfl
  have hf_y_7 : Tr enc Tryd.prog W 3 [c7] := (Tr.struct Tryd.underlying57 hx).2 7 _ rfl
  have hf_y_8 : Tr enc Tryd.prog W 3 [c8] := (Tr.struct Tryd.underlying57 hx).2 8 _ rfl
  have hf_y_9 : Tr enc Tryd.prog W 3 [c9] := (Tr.struct Tryd.underlying57 hx).2 9 _ rfl
  obtain ⟨y_Name, hx_, y_Name_b⟩ := Tr.string Tryd.underlying9 hf_y_0
  obtain rfl : c0 = _ := by simpa using hx_
  clear hx_
  clear hf_y_0
  obtain ⟨y_Start, hx_, y_Start_b0⟩ := Tr.int Tryd.underlying3 hf_y_1
  obtain rfl : c1 = _ := by simpa using hx_
  clear hx_
  have y_Start_b : (-9223372036854775808) ≤ y_Start ∧ y_Start ≤ 9223372036854775807 := by simpa [IntKind.min, IntKind.max, IntKind.signed, IntKind.bits] using y_Start_b0
  clear y_Start_b0
  clear hf_y_1
  obtain ⟨y_Length, hx_, y_Length_b0⟩ := Tr.int Tryd.underlying3 hf_y_2
  obtain rfl : c2 = _ := by simpa using hx_
  clear hx_
  have y_Length_b : (-9223372036854775808) ≤ y_Length ∧ y_Length ≤ 9223372036854775807 := by simpa [IntKind.min, IntKind.max, IntKind.signed, IntKind.bits] using y_Length_b0
  clear y_Length_b0
  clear hf_y_2
  obtain ⟨y_Motorola, hx_⟩ := Tr.bool Tryd.underlying4 hf_y_3
  obtain rfl : c3 = _ := by simpa using hx_
  clear hx_
  clear hf_y_3
  obtain ⟨y_Signed, hx_⟩ := Tr.bool Tryd.underlying4 hf_y_4
  obtain rfl : c4 = _ := by simpa using hx_
  clear hx_
  clear hf_y_4
  obtain ⟨y_Num, hx_, y_Num_b0⟩ := Tr.int Tryd.underlying3 hf_y_5
  obtain rfl : c5 = _ := by simpa using hx_
  clear hx_
  have y_Num_b : (-9223372036854775808) ≤ y_Num ∧ y_Num ≤ 9223372036854775807 := by simpa [IntKind.min, IntKind.max, IntKind.signed, IntKind.bits] using y_Num_b0
  clear y_Num_b0
  clear hf_y_5
  obtain ⟨y_Off, hx_, y_Off_b0⟩ := Tr.int Tryd.underlying3 hf_y_6
  obtain rfl : c6 = _ := by simpa using hx_
  clear hx_
  have y_Off_b : (-9223372036854775808) ≤ y_Off ∧ y_Off ≤ 9223372036854775807 := by simpa [IntKind.min, IntKind.max, IntKind.signed, IntKind.bits] using y_Off_b0
  clear y_Off_b0
  clear hf_y_6
  obtain ⟨y_Den, hx_, y_Den_b0⟩ := Tr.int Tryd.underlying3 hf_y_7
  obtain rfl : c7 = _ := by simpa using hx_
  clear hx_
  have y_Den_b : (-9223372036854775808) ≤ y_Den ∧ y_Den ≤ 9223372036854775807 := by simpa [IntKind.min, IntKind.max, IntKind.signed, IntKind.bits] using y_Den_b0
  clear y_Den_b0
  clear hf_y_7
  obtain ⟨y_Low, hx_, y_Low_b0⟩ := Tr.int Tryd.underlying3 hf_y_8
  obtain rfl : c8 = _ := by simpa using hx_
  clear hx_
  have y_Low_b : (-9223372036854775808) ≤ y_Low ∧ y_Low ≤ 9223372036854775807 := by simpa [IntKind.min, IntKind.max, IntKind.signed, IntKind.bits] using y_Low_b0
  clear y_Low_b0
  clear hf_y_8
  obtain ⟨y_High, hx_, y_High_b0⟩ := Tr.int Tryd.underlying3 hf_y_9
  obtain rfl : c9 = _ := by simpa using hx_
  clear hx_
  have y_High_b : (-9223372036854775808) ≤ y_High ∧ y_High ≤ 9223372036854775807 := by simpa [IntKind.min, IntKind.max, IntKind.signed, IntKind.bits] using y_High_b0
  clear y_High_b0
  clear hf_y_9
  exact ⟨⟨y_Name, y_Start, y_Length, y_Motorola, y_Signed, y_Num, y_Off, y_Den, y_Low, y_High⟩, rfl, ⟨(by simpa [maxLen] using y_Name_b), y_Start_b, y_Length_b, y_Num_b, y_Off_b, y_Den_b, y_Low_b, y_High_b, trivial⟩⟩
theorem lst5 {x : List Value} (h : x.length = 5) : ∃ c0 c1 c2 c3 c4, x = [c0, c1, c2, c3, c4] := by
  match x, h with
  | [c0, c1, c2, c3, c4], _ => exact ⟨c0, c1, c2, c3, c4, rfl⟩
set_option maxRecDepth 100000 in
theorem el34 {H : Type} {enc : TypeId × Value → H} {W : World} (x : List Value) (hx : Tr enc Tryd.prog W 34 x) : ∃ y : Frm, x = frmE y ∧ frmQ W y := by
  have hl : x.length = 5 := (Tr.struct Tryd.underlying34 hx).1.trans (show Tryd.prog.cellsOf 34 = 5 by kernel_rfl)
  obtain ⟨c0, c1, c2, c3, c4, rfl⟩ := lst5 hl
  have hf_y_0 : Tr enc Tryd.prog W 9 [c0] := (Tr.struct Tryd.underlying34 hx).2 0 _ rfl
  have hf_y_1 : Tr enc Tryd.prog W 3 [c1] := (Tr.struct Tryd.underlying34 hx).2 1 _ rfl
  have hf_y_2 : Tr enc Tryd.prog W 3 [c2] := (Tr.struct Tryd.underlying34 hx).2 2 _ rfl
  have hf_y_3 : Tr enc Tryd.prog W 4 [c3] := (Tr.struct Tryd.underlying34 hx).2 3 _ rfl
  have hf_y_4 : Tr enc Tryd.prog W 32 [c4] := (Tr.struct Tryd.underlying34 hx).2 4 _ rfl
  obtain ⟨y_Name, hx_, y_Name_b⟩ := Tr.string Tryd.underlying9 hf_y_0
  obtain rfl : c0 = _ := by simpa using hx_
  clear hx_
  clear hf_y_0
  obtain ⟨y_ID, hx_, y_ID_b0⟩ := Tr.int Tryd.underlying3 hf_y_1
  obtain rfl : c1 = _ := by simpa using hx_
  clear hx_
  have y_ID_b : (-9223372036854775808) ≤ y_ID ∧ y_ID ≤ 9223372036854775807 := by simpa [IntKind.min, IntKind.max, IntKind.signed, IntKind.bits] using y_ID_b0
  clear y_ID_b0
  clear hf_y_1
  obtain ⟨y_Length, hx_, y_Length_b0⟩ := Tr.int Tryd.underlying3 hf_y_2
  obtain rfl : c2 = _ := by simpa using hx_
  clear hx_
  have y_Length_b : (-9223372036854775808) ≤ y_Length ∧ y_Length ≤ 9223372036854775807 := by simpa [IntKind.min, IntKind.max, IntKind.signed, IntKind.bits] using y_Length_b0
  clear y_Length_b0
  clear hf_y_2
  obtain ⟨y_Guarded, hx_⟩ := Tr.bool Tryd.underlying4 hf_y_3
  obtain rfl : c3 = _ := by simpa using hx_
  clear hx_
  clear hf_y_3
  obtain ⟨y_Signals_a, y_Signals_len, y_Signals_cap, hx_, y_Signals_hlen, y_Signals_l, y_Signals_ln, y_Signals_q, y_Signals_h⟩ := Tr.list (sigE) (sigQ W) Tryd.underlying32 hf_y_4 el57
  obtain rfl : c4 = _ := by simpa using hx_
  clear hx_
  have y_Signals_cp := Tr.cap Tryd.underlying32 hf_y_4
  clear hf_y_4
  exact ⟨⟨y_Name, y_ID, y_Length, y_Guarded, y_Signals_a, y_Signals_len, y_Signals_cap, y_Signals_l⟩, rfl, ⟨(by simpa [maxLen] using y_Name_b), y_ID_b, y_Length_b, y_Signals_cp, ⟨y_Signals_ln, fun _ => rfl, by decide, y_Signals_h⟩, y_Signals_q, trivial⟩⟩
def laid : List (String × DataW Unit) := Rows.signaldbBackRow.laid
theorem starE : "*" ++ "errors.errorString" = "*errors.errorString" := by decide
theorem rowE (u : TypeId) (h : Tryd.prog.typeName? 3 u = some "*errors.errorString") : u = 164 :=
  typeName_ptr_named (nm := "errors.errorString") (by rw [starE]; kernel_rfl) (by kernel_rfl) (by decide) u (by rw [starE]; exact h)
theorem errW0 {W : World} (h : laidMet Tryd.prog laid W) : ErrW W 4 := by
  have h2 : laidMet Tryd.prog (laid.drop 5) W := h.tail.tail.tail.tail.tail
  rw [show laid.drop 5 = ("strconv.ErrSyntax", .iface "*errors.errorString" (.ptr (.agg [.lit (.string [105, 110, 118, 97, 108, 105, 100, 32, 115, 121, 110, 116, 97, 120])]))) :: laid.drop 6 by kernel_rfl] at h2
  obtain ⟨a0, s0, hv0, -, -, -⟩ := laid_sentinel (g := 4) (ti := 70) (tp := 164) (te := 166) (ts := 9) h2 (by kernel_rfl) (by kernel_rfl) Tryd.underlying70 rowE Tryd.underlying164 Tryd.underlying166 rfl rfl Tryd.underlying9 (by kernel_rfl) (by kernel_rfl)
  exact ⟨_, by have h0 := World.var?_cell (g := 4) (by kernel_rfl) hv0 0; simpa using h0, .inr ⟨_, _, rfl⟩⟩
theorem errW1 {W : World} (h : laidMet Tryd.prog laid W) : ErrW W 5 := by
  have h2 : laidMet Tryd.prog (laid.drop 4) W := h.tail.tail.tail.tail
  rw [show laid.drop 4 = ("strconv.ErrRange", .iface "*errors.errorString" (.ptr (.agg [.lit (.string [118, 97, 108, 117, 101, 32, 111, 117, 116, 32, 111, 102, 32, 114, 97, 110, 103, 101])]))) :: laid.drop 5 by kernel_rfl] at h2
  obtain ⟨a0, s0, hv0, -, -, -⟩ := laid_sentinel (g := 5) (ti := 70) (tp := 164) (te := 166) (ts := 9) h2 (by kernel_rfl) (by kernel_rfl) Tryd.underlying70 rowE Tryd.underlying164 Tryd.underlying166 rfl rfl Tryd.underlying9 (by kernel_rfl) (by kernel_rfl)
  exact ⟨_, by have h0 := World.var?_cell (g := 5) (by kernel_rfl) hv0 0; simpa using h0, .inr ⟨_, _, rfl⟩⟩
theorem of_laid {W : World} (h0 : laidMetH Tryd.prog laid W ∧ W.ShapedOpen Tryd.prog) : TabW W := by
  obtain ⟨h, hs⟩ := h0
  rw [MakeChecks.laidMetH_plain _ _ _ (by kernel_rfl)] at h
  have h2 : laidMet Tryd.prog (laid.drop 2) W := h.tail.tail
  rw [show laid.drop 2 = ("internal/strconv.uint64pow10", Lib.tabData .u64 Lib.pow10Tab) :: laid.drop 3 by kernel_rfl] at h2
  have ht := Lib.tabIs_of_head (g := 3) (by kernel_rfl) (by kernel_rfl) Tryd.underlying152 Tryd.underlying121 (by kernel_rfl) (by kernel_rfl) h2
  exact ⟨ht, errW0 h, errW1 h, Go.Proofs.cell_of_shapedOpen_int (g := 0) (t := 3) (k := .i64) (zero := #[.int .i64 0]) hs (by decide) (by kernel_rfl) (by rfl) (by kernel_rfl) (by kernel_rfl) Tryd.underlying3⟩

set_option maxRecDepth 100000 in
theorem lifted (os : Os) (started : os.Started) (H : Type) (enc : TypeId × Value → H) :
    ReturnsInHanded {} Tryd.checked os 5 .any (fun w args => (Rows.signaldbBackSpec.pre enc Tryd.prog Tryd.f5 [] false w args ∧ laidMetH Tryd.prog laid w) ∧ sizedMet enc Tryd.prog Tryd.f5 (OpenSpec.ofChange Rows.signaldbBackSpec) false w args) (Rows.signaldbBackSpec.post enc Tryd.prog Tryd.f5 false true false false) := by
  refine handed_shaped (C := Tryd.checked) (X := fun w _ => laidMetH Tryd.prog laid w) (fun _ _ _ hh h => h.of_heap hh) own started (by kernel_rfl) Tryd.func5
    (ChangeSpec.witness_shaped (enc := enc) (C := Tryd.checked) (os := os) (X := fun w _ => laidMetH Tryd.prog laid w) false (World.laidAll Tryd.prog os laid) #[.agg #[.slice none 0 0], .string ByteArray.empty] 8 (World.laidAll_os _ _ _) (World.shaped_of_ZipB (by kernel_rfl) (by kernel_rfl)) (by kernel_rfl) (by kernel_rfl) (by kernel_rfl) (by rw [MakeChecks.laidMetH_plain _ _ _ (by kernel_rfl)]; exact laidMet_laidAll _ (by kernel_rfl) (by kernel_rfl))) ?_
  intro W base args ds gs before hval0 hW hL0 hsh
  have hL := And.intro hL0 hsh
  have hval : ∀ (j : Nat) t v, Tryd.f5.params[j]? = some t → args[j]? = some v → Value.okWide Tryd.prog W .any base t v := hval0
  have hW' := hW
  obtain ⟨p, q, hA0, hV, rfl, hfz, hnd⟩ := hW
  have hA : DataW.TrodAll enc Tryd.prog W 0 (fun _ => true) true Tryd.f5.params.toList args.toList ds p := hA0
  rw [Tryd.params5] at hA hval
  obtain ⟨v0, vs0, d0, ds0, p0, q0, hargs, rfl, rfl, h0, r0⟩ := trodAll_cons hA
  obtain ⟨v1, vs1, d1, ds1, p1, q1, rfl, rfl, rfl, h1, r1⟩ := trodAll_cons r0
  obtain ⟨rfl, rfl, rfl⟩ := trodAll_nil r1
  obtain rfl : args = #[v0, v1] := by cases args; simp_all
  obtain ⟨rfl, rfl⟩ := trodVars_none hV
  have k0 := h0
  have lt0 : ∀ x ∈ p0, x.block < W.heap.size := by obtain ⟨m, hm⟩ := k0; exact DataW.trod_lt m _ _ _ hm
  obtain ⟨cs0, rfl, hs0⟩ := okWide_struct Tryd.underlying24 (hval 0 24 v0 rfl rfl)
  obtain ⟨d_c0, rfl⟩ := arr1 (hs0.trans (show Tryd.prog.cellsOf 24 = 1 by kernel_rfl))
  have t0 : Tr enc Tryd.prog W 24 [d_c0] := Tr.of h0
  have hf_d_0 : Tr enc Tryd.prog W 22 [d_c0] := (Tr.struct Tryd.underlying24 t0).2 0 _ rfl
  obtain ⟨d_Frames_a, d_Frames_len, d_Frames_cap, hx_, d_Frames_hlen, d_Frames_l, d_Frames_ln, d_Frames_q, d_Frames_h⟩ := Tr.list (frmE) (frmQ W) Tryd.underlying22 hf_d_0 el34
  obtain rfl : d_c0 = _ := by simpa using hx_
  clear hx_
  have d_Frames_cp := Tr.cap Tryd.underlying22 hf_d_0
  clear hf_d_0
  have k1 := h1
  have lt1 : ∀ x ∈ p1, x.block < W.heap.size := by obtain ⟨m, hm⟩ := k1; exact DataW.trod_lt m _ _ _ hm
  obtain ⟨s, rfl, rfl, rfl, s_w⟩ := open_string Tryd.underlying9 (hval 1 9 v1 rfl rfl) h1
  have s_b : s.size ≤ 9223372036854775807 := by simpa [maxLen] using s_w
  clear hA0 hval0
  have hw := lawback_any (⟨d_Frames_a, d_Frames_len, d_Frames_cap, d_Frames_l⟩ : Db) s W ⟨d_Frames_cp, ⟨d_Frames_ln, fun _ => rfl, by decide, d_Frames_h⟩, d_Frames_q, trivial⟩ s_b (of_laid hL)
  refine Calls.mono hw fun e W' he => ?_
  obtain ⟨_, rfl, rfl, hS⟩ := he
  have bel := hS.below
  exact ⟨_, rfl, _, _, _, [], _, [], hW', trodAll_mk1 (shut_bool Tryd.underlying4 _), (trodAll_cons_mk (Below.trod laidOut (by kernel_rfl) (of_decide_eq_true (by kernel_rfl)) k0 bel lt0) (trodAll_cons_mk (Below.trod laidOut (by kernel_rfl) (of_decide_eq_true (by kernel_rfl)) k1 bel lt1) trodAll_mk0)), rfl, bel.frame _, fun h => by cases h⟩

theorem over : Rows.signaldbBackRow.holds Tryd.pinned (OpenSpec.ofChange Rows.signaldbBackSpec) :=
  OpenClaim.holds_of_wide 5 Tryd.f5 rfl rfl rfl rfl rfl rfl rfl ⟨rfl, rfl, rfl, rfl, rfl⟩ rfl rfl rfl rfl rfl (by kernel_rfl) Tryd.func5 (by kernel_rfl)
    (of_decide_eq_true (by kernel_rfl)) (by unfold Func.isWrapper; first | (rw [if_pos (by decide +kernel)]; kernel_rfl) | (rw [if_neg (by decide +kernel)]; exact ⟨rfl, rfl⟩))
    (fun os started H enc _ => lifted os started H enc)

theorem proved : Rows.SignaldbBackCardSaid :=
  Claim7.holds_tied_plain_at .later [] [.data, .data, .data, .data, .sentinel, .sentinel, .pinned] true (true, "44903ffafba81fbfbebc1da7cb9a2325c5735e6bc565cfc92e2425e43c85591e") true over (fun _ h => by cases h) (by kernel_rfl) (fun _ h => by cases h) signaldbBack_row_tie rfl ⟨rfl, rfl⟩ (by kernel_rfl) rfl
    (fun f fn hf hfn => by
      obtain rfl : f = 5 := Option.some.inj ((show Tryd.prog.funcNamed Rows.signaldbBackRow.func = some 5 by kernel_rfl).symm.trans hf) |>.symm
      obtain rfl : fn = Tryd.f5 := (Option.some.inj (Tryd.func5.symm.trans hfn)).symm
      exact ⟨by kernel_rfl, fun j t ht => by
        rw [Tryd.params5] at ht
        have hm : t ∈ [24, 9] := by have := Array.mem_of_getElem? ht; simpa [or_comm, or_left_comm] using this
        have hall : ([24, 9].all fun u => !Tryd.prog.wantsStandIn u) = true := by kernel_rfl
        exact (show Tryd.prog.wantsStandIn t = false by simpa using List.all_eq_true.1 hall t hm)⟩)
    (by kernel_rfl)
#print axioms proved
end Go.Proofs.YthiklimfffhbaaaDoor.signaldbBack

