/- The given statement MachineWordsSaid, proved: the law returns true whatever its arguments, and leaves them as they were. Conditions: none beyond the statement's own. -/
import Derived.Test.YthfpejhonhaggaaDoorRows
import Derived.Test.YthfpejhonhaggaaDoorEng6
import Derived.Test.YthfpejhonhaggaaDoorW11
import Derived.WalkKit
import Derived.ProofKit
import Derived.Test.YthfpejhonhaggaaDoorTie
import Derived.Test.YthfpejhonhaggaaDoorCards
import Derived.LaidMore
import Derived.MakeChecks
import Derived.Stop.LaidErr
import Derived.Stop.Joined
import Derived.SevenTiedAt
import Derived.Lay
import Derived.Shelf.Vars
import Derived.OpenShut
import Derived.ShutString
import Derived.ChangeOld
import Derived.Below
namespace Go.Proofs.YthfpejhonhaggaaDoor.machineWords
open Go.ChangeShapes Go.WideShapes Go.ChangeAt Go.RowKit Go.Eng
open Go.ChangeMaps (open_string shut_string)
set_option linter.unusedVariables false
set_option linter.unusedSimpArgs false

theorem own : ownKnob Tryd.prog.godebug = none := by kernel_rfl
theorem laidOut : laidOutB Tryd.prog = true := by kernel_rfl
theorem arr5 {cs : Array Value} (h : cs.size = 5) : ∃ c0 c1 c2 c3 c4, cs = #[c0, c1, c2, c3, c4] := by
  obtain ⟨l⟩ := cs
  match l, h with
  | [c0, c1, c2, c3, c4], _ => exact ⟨c0, c1, c2, c3, c4, rfl⟩

def laid : List (String × DataW Unit) := Rows.machineWordsRow.laid
theorem starE : "*" ++ "errors.errorString" = "*errors.errorString" := by decide
theorem rowE (u : TypeId) (h : Tryd.prog.typeName? 3 u = some "*errors.errorString") : u = 103 :=
  typeName_ptr_named (nm := "errors.errorString") (by rw [starE]; kernel_rfl) (by kernel_rfl) (by decide) u (by rw [starE]; exact h)
theorem errW0 {W : World} (h : laidMet Tryd.prog laid W) : ErrW W 0 := by
  have h2 : laidMet Tryd.prog (laid.drop 5) W := h.tail.tail.tail.tail.tail
  rw [show laid.drop 5 = ("strconv.ErrSyntax", .iface "*errors.errorString" (.ptr (.agg [.lit (.string [105, 110, 118, 97, 108, 105, 100, 32, 115, 121, 110, 116, 97, 120])]))) :: laid.drop 6 by kernel_rfl] at h2
  obtain ⟨a0, s0, hv0, -, -, -⟩ := laid_sentinel (g := 0) (ti := 58) (tp := 103) (te := 105) (ts := 9) h2 (by kernel_rfl) (by kernel_rfl) Tryd.underlying58 rowE Tryd.underlying103 Tryd.underlying105 rfl rfl Tryd.underlying9 (by kernel_rfl) (by kernel_rfl)
  exact ⟨_, by have h0 := World.var?_cell (g := 0) (by kernel_rfl) hv0 0; simpa using h0, .inr ⟨_, _, rfl⟩⟩
theorem errW1 {W : World} (h : laidMet Tryd.prog laid W) : ErrW W 1 := by
  have h2 : laidMet Tryd.prog (laid.drop 4) W := h.tail.tail.tail.tail
  rw [show laid.drop 4 = ("strconv.ErrRange", .iface "*errors.errorString" (.ptr (.agg [.lit (.string [118, 97, 108, 117, 101, 32, 111, 117, 116, 32, 111, 102, 32, 114, 97, 110, 103, 101])]))) :: laid.drop 5 by kernel_rfl] at h2
  obtain ⟨a0, s0, hv0, -, -, -⟩ := laid_sentinel (g := 1) (ti := 58) (tp := 103) (te := 105) (ts := 9) h2 (by kernel_rfl) (by kernel_rfl) Tryd.underlying58 rowE Tryd.underlying103 Tryd.underlying105 rfl rfl Tryd.underlying9 (by kernel_rfl) (by kernel_rfl)
  exact ⟨_, by have h0 := World.var?_cell (g := 1) (by kernel_rfl) hv0 0; simpa using h0, .inr ⟨_, _, rfl⟩⟩
theorem of_laid {W : World} (h0 : laidMetH Tryd.prog laid W ∧ W.ShapedOpen Tryd.prog) : TabW W := by
  obtain ⟨h, hs⟩ := h0
  rw [MakeChecks.laidMetH_plain _ _ _ (by kernel_rfl)] at h
  have h2 : laidMet Tryd.prog (laid.drop 2) W := h.tail.tail
  rw [show laid.drop 2 = ("internal/strconv.uint64pow10", Lib.tabData .u64 Lib.pow10Tab) :: laid.drop 3 by kernel_rfl] at h2
  have ht := Lib.tabIs_of_head (g := 3) (by kernel_rfl) (by kernel_rfl) Tryd.underlying96 Tryd.underlying41 (by kernel_rfl) (by kernel_rfl) h2
  exact ⟨ht, errW0 h, errW1 h, Go.Proofs.cell_of_shapedOpen_int (g := 2) (t := 3) (k := .i64) (zero := #[.int .i64 0]) hs (by decide) (by kernel_rfl) (by rfl) (by kernel_rfl) (by kernel_rfl) Tryd.underlying3⟩

set_option maxRecDepth 100000 in
theorem lifted (os : Os) (started : os.Started) (H : Type) (enc : TypeId × Value → H) :
    ReturnsInHanded {} Tryd.checked os 3 .any (fun w args => (Rows.machineWordsSpec.pre enc Tryd.prog Tryd.f3 [] false w args ∧ laidMetH Tryd.prog laid w) ∧ sizedMet enc Tryd.prog Tryd.f3 (OpenSpec.ofChange Rows.machineWordsSpec) false w args) (Rows.machineWordsSpec.post enc Tryd.prog Tryd.f3 false true false false) := by
  refine handed_shaped (C := Tryd.checked) (X := fun w _ => laidMetH Tryd.prog laid w) (fun _ _ _ hh h => h.of_heap hh) own started (by kernel_rfl) Tryd.func3
    (ChangeSpec.witness_shaped (enc := enc) (C := Tryd.checked) (os := os) (X := fun w _ => laidMetH Tryd.prog laid w) false (World.laidAll Tryd.prog os laid) #[.agg #[.int .i64 0, .int .i64 0, .int .i64 0, .int .i64 0, .int .i64 0], .slice none 0 0, .string ByteArray.empty] 8 (World.laidAll_os _ _ _) (World.shaped_of_ZipB (by kernel_rfl) (by kernel_rfl)) (by kernel_rfl) (by kernel_rfl) (by kernel_rfl) (by rw [MakeChecks.laidMetH_plain _ _ _ (by kernel_rfl)]; exact laidMet_laidAll _ (by kernel_rfl) (by kernel_rfl))) ?_
  intro W base args ds gs before hval0 hW hL0 hsh
  have hL := And.intro hL0 hsh
  have hval : ∀ (j : Nat) t v, Tryd.f3.params[j]? = some t → args[j]? = some v → Value.okWide Tryd.prog W .any base t v := hval0
  have hW' := hW
  obtain ⟨p, q, hA0, hV, rfl, hfz, hnd⟩ := hW
  have hA : DataW.TrodAll enc Tryd.prog W 0 (fun _ => true) true Tryd.f3.params.toList args.toList ds p := hA0
  rw [Tryd.params3] at hA hval
  obtain ⟨v0, vs0, d0, ds0, p0, q0, hargs, rfl, rfl, h0, r0⟩ := trodAll_cons hA
  obtain ⟨v1, vs1, d1, ds1, p1, q1, rfl, rfl, rfl, h1, r1⟩ := trodAll_cons r0
  obtain ⟨v2, vs2, d2, ds2, p2, q2, rfl, rfl, rfl, h2, r2⟩ := trodAll_cons r1
  obtain ⟨rfl, rfl, rfl⟩ := trodAll_nil r2
  obtain rfl : args = #[v0, v1, v2] := by cases args; simp_all
  obtain ⟨rfl, rfl⟩ := trodVars_none hV
  have k0 := h0
  have lt0 : ∀ x ∈ p0, x.block < W.heap.size := by obtain ⟨m, hm⟩ := k0; exact DataW.trod_lt m _ _ _ hm
  obtain ⟨cs0, rfl, hs0⟩ := okWide_struct Tryd.underlying23 (hval 0 23 v0 rfl rfl)
  obtain ⟨i_c0, i_c1, i_c2, i_c3, i_c4, rfl⟩ := arr5 (hs0.trans (show Tryd.prog.cellsOf 23 = 5 by kernel_rfl))
  have t0 : Tr enc Tryd.prog W 23 [i_c0, i_c1, i_c2, i_c3, i_c4] := Tr.of h0
  have hf_i_0 : Tr enc Tryd.prog W 3 [i_c0] := (Tr.struct Tryd.underlying23 t0).2 0 _ rfl
  have hf_i_1 : Tr enc Tryd.prog W 3 [i_c1] := (Tr.struct Tryd.underlying23 t0).2 1 _ rfl
  have hf_i_2 : Tr enc Tryd.prog W 3 [i_c2] := (Tr.struct Tryd.underlying23 t0).2 2 _ rfl
  have hf_i_3 : Tr enc Tryd.prog W 3 [i_c3] := (Tr.struct Tryd.underlying23 t0).2 3 _ rfl
  have hf_i_4 : Tr enc Tryd.prog W 3 [i_c4] := (Tr.struct Tryd.underlying23 t0).2 4 _ rfl
  obtain ⟨i_Op, hx_, i_Op_b0⟩ := Tr.int Tryd.underlying3 hf_i_0
  obtain rfl : i_c0 = _ := by simpa using hx_
  clear hx_
  have i_Op_b : (-9223372036854775808) ≤ i_Op ∧ i_Op ≤ 9223372036854775807 := by simpa [IntKind.min, IntKind.max, IntKind.signed, IntKind.bits] using i_Op_b0
  clear i_Op_b0
  clear hf_i_0
  obtain ⟨i_A, hx_, i_A_b0⟩ := Tr.int Tryd.underlying3 hf_i_1
  obtain rfl : i_c1 = _ := by simpa using hx_
  clear hx_
  have i_A_b : (-9223372036854775808) ≤ i_A ∧ i_A ≤ 9223372036854775807 := by simpa [IntKind.min, IntKind.max, IntKind.signed, IntKind.bits] using i_A_b0
  clear i_A_b0
  clear hf_i_1
  obtain ⟨i_B, hx_, i_B_b0⟩ := Tr.int Tryd.underlying3 hf_i_2
  obtain rfl : i_c2 = _ := by simpa using hx_
  clear hx_
  have i_B_b : (-9223372036854775808) ≤ i_B ∧ i_B ≤ 9223372036854775807 := by simpa [IntKind.min, IntKind.max, IntKind.signed, IntKind.bits] using i_B_b0
  clear i_B_b0
  clear hf_i_2
  obtain ⟨i_C, hx_, i_C_b0⟩ := Tr.int Tryd.underlying3 hf_i_3
  obtain rfl : i_c3 = _ := by simpa using hx_
  clear hx_
  have i_C_b : (-9223372036854775808) ≤ i_C ∧ i_C ≤ 9223372036854775807 := by simpa [IntKind.min, IntKind.max, IntKind.signed, IntKind.bits] using i_C_b0
  clear i_C_b0
  clear hf_i_3
  obtain ⟨i_K, hx_, i_K_b0⟩ := Tr.int Tryd.underlying3 hf_i_4
  obtain rfl : i_c4 = _ := by simpa using hx_
  clear hx_
  have i_K_b : (-9223372036854775808) ≤ i_K ∧ i_K ≤ 9223372036854775807 := by simpa [IntKind.min, IntKind.max, IntKind.signed, IntKind.bits] using i_K_b0
  clear i_K_b0
  clear hf_i_4
  have k1 := h1
  have lt1 : ∀ x ∈ p1, x.block < W.heap.size := by obtain ⟨m, hm⟩ := k1; exact DataW.trod_lt m _ _ _ hm
  have t1 := Tr.of h1
  rw [val_slice Tryd.underlying24 (hval 1 24 v1 rfl rfl)] at t1
  obtain ⟨b_a, b_len, b_cap, hx_, b_hlen, b_l, b_q, b_h⟩ := Tr.ones (Value.int .u8) (fun n => 0 ≤ n ∧ n ≤ 255) Tryd.underlying24 t1 (fun x hx => by obtain ⟨n, h1, h2⟩ := Tr.int Tryd.underlying5 hx; exact ⟨n, h1, by simpa [IntKind.min, IntKind.max, IntKind.signed, IntKind.bits] using h2⟩)
  obtain rfl : v1 = _ := by simpa using hx_
  clear hx_
  have b_cp := Tr.cap Tryd.underlying24 t1
  have k2 := h2
  have lt2 : ∀ x ∈ p2, x.block < W.heap.size := by obtain ⟨m, hm⟩ := k2; exact DataW.trod_lt m _ _ _ hm
  obtain ⟨s, rfl, rfl, rfl, s_w⟩ := open_string Tryd.underlying9 (hval 2 9 v2 rfl rfl) h2
  have s_b : s.size ≤ 9223372036854775807 := by simpa [maxLen] using s_w
  clear hA0 hval0
  have hw := lawwords_any (⟨i_Op, i_A, i_B, i_C, i_K⟩ : Ins) b_a b_len b_cap b_l s W ⟨i_Op_b, i_A_b, i_B_b, i_C_b, i_K_b, trivial⟩ b_h b_q b_cp.1 s_b (of_laid hL)
  refine Calls.mono hw fun e W' he => ?_
  obtain ⟨_, rfl, rfl, hS⟩ := he
  have bel := hS.below
  exact ⟨_, rfl, _, _, _, [], _, [], hW', trodAll_mk1 (shut_bool Tryd.underlying4 _), (trodAll_cons_mk (Below.trod laidOut (by kernel_rfl) (of_decide_eq_true (by kernel_rfl)) k0 bel lt0) (trodAll_cons_mk (Below.trod laidOut (by kernel_rfl) (of_decide_eq_true (by kernel_rfl)) k1 bel lt1) (trodAll_cons_mk (Below.trod laidOut (by kernel_rfl) (of_decide_eq_true (by kernel_rfl)) k2 bel lt2) trodAll_mk0))), rfl, bel.frame _, fun h => by cases h⟩

theorem over : Rows.machineWordsRow.holds Tryd.pinned (OpenSpec.ofChange Rows.machineWordsSpec) :=
  OpenClaim.holds_of_wide 3 Tryd.f3 rfl rfl rfl rfl rfl rfl rfl ⟨rfl, rfl, rfl, rfl, rfl⟩ rfl rfl rfl rfl rfl (by kernel_rfl) Tryd.func3 (by kernel_rfl)
    (of_decide_eq_true (by kernel_rfl)) (by unfold Func.isWrapper; first | (rw [if_pos (by decide +kernel)]; kernel_rfl) | (rw [if_neg (by decide +kernel)]; exact ⟨rfl, rfl⟩))
    (fun os started H enc _ => lifted os started H enc)

theorem proved : Rows.MachineWordsCardSaid :=
  Claim7.holds_tied_plain_at .later [] [.data, .data, .data, .data, .sentinel, .sentinel, .pinned] true (true, "d7c2e54b6e7e34c2da25d778a44678258789c9200a29a4386ae9bd67f19cf760") true over (fun _ h => by cases h) (by kernel_rfl) (fun _ h => by cases h) machineWords_row_tie rfl ⟨rfl, rfl⟩ (by kernel_rfl) rfl
    (fun f fn hf hfn => by
      obtain rfl : f = 3 := Option.some.inj ((show Tryd.prog.funcNamed Rows.machineWordsRow.func = some 3 by kernel_rfl).symm.trans hf) |>.symm
      obtain rfl : fn = Tryd.f3 := (Option.some.inj (Tryd.func3.symm.trans hfn)).symm
      exact ⟨by kernel_rfl, fun j t ht => by
        rw [Tryd.params3] at ht
        have hm : t ∈ [23, 24, 9] := by have := Array.mem_of_getElem? ht; simpa [or_comm, or_left_comm] using this
        have hall : ([23, 24, 9].all fun u => !Tryd.prog.wantsStandIn u) = true := by kernel_rfl
        exact (show Tryd.prog.wantsStandIn t = false by simpa using List.all_eq_true.1 hall t hm)⟩)
    (by kernel_rfl)
#print axioms proved
end Go.Proofs.YthfpejhonhaggaaDoor.machineWords
