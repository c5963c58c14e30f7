/- The given statement SurfaceBackSaid, proved: the law returns true whatever its arguments, and leaves them as they were. Conditions: none beyond the statement's own. -/
import Derived.Test.YtadgnficogeheaaGreatDoorRows
import Derived.Test.YtadgnficogeheaaGreatDoorZsEng6
import Derived.Test.YtadgnficogeheaaGreatDoorZsT27
import Derived.WalkKit
import Derived.ProofKit
import Derived.Test.YtadgnficogeheaaGreatDoorTie
import Derived.Test.YtadgnficogeheaaGreatDoorCards
import Derived.LaidMore
import Derived.MakeChecks
import Derived.Stop.LaidErr
import Derived.Stop.Joined
import Derived.SevenTiedAt
import Derived.Lay
import Derived.Shelf.Vars
import Derived.OpenShut
import Derived.ShutString
import Derived.ChangeOld
import Derived.Below
namespace Go.Proofs.YtadgnficogeheaaGreatDoor.surfaceBack
open Go.ChangeShapes Go.WideShapes Go.ChangeAt Go.RowKit Go.Eng
open Go.ChangeMaps (open_string shut_string)
set_option linter.unusedVariables false
set_option linter.unusedSimpArgs false

theorem own : ownKnob Tryz.prog.godebug = none := by kernel_rfl
theorem laidOut : laidOutB Tryz.prog = true := by kernel_rfl
theorem arr3 {cs : Array Value} (h : cs.size = 3) : ∃ c0 c1 c2, cs = #[c0, c1, c2] := by
  obtain ⟨l⟩ := cs
  match l, h with
  | [c0, c1, c2], _ => exact ⟨c0, c1, c2, rfl⟩
set_option maxRecDepth 100000 in
theorem el22 {H : Type} {enc : TypeId × Value → H} {W : World} (x : List Value) (hx : Tr enc Tryz.prog W 22 x) : ∃ y : Rw, x = rwE y ∧ rwQ W y := by
  obtain ⟨c0, rfl⟩ : ∃ c0, x = [c0] := by obtain ⟨a_, l_, k_, h_, _⟩ := Tr.slice Tryz.underlying22 hx; exact ⟨_, h_⟩
  obtain ⟨y_a, y_len, y_cap, hx_, y_hlen, y_l, y_q, y_h⟩ := Tr.ones (Value.int .i64) (fun n => (-9223372036854775808) ≤ n ∧ n ≤ 9223372036854775807) Tryz.underlying22 hx (fun x hx => by obtain ⟨n, h1, h2⟩ := Tr.int Tryz.underlying3 hx; exact ⟨n, h1, by simpa [IntKind.min, IntKind.max, IntKind.signed, IntKind.bits] using h2⟩)
  obtain rfl : c0 = _ := by simpa using hx_
  clear hx_
  have y_cp := Tr.cap Tryz.underlying22 hx
  exact ⟨⟨y_a, y_len, y_cap, y_l⟩, rfl, ⟨y_cp, y_h, y_q, trivial⟩⟩
def laid : List (String × DataW Unit) := Rows.surfaceBackRow.laid
theorem starE : "*" ++ "errors.errorString" = "*errors.errorString" := by decide
theorem rowE (u : TypeId) (h : Tryz.prog.typeName? 3 u = some "*errors.errorString") : u = 140 :=
  typeName_ptr_named (nm := "errors.errorString") (by rw [starE]; kernel_rfl) (by kernel_rfl) (by decide) u (by rw [starE]; exact h)
theorem errW0 {W : World} (h : laidMet Tryz.prog laid W) : ErrW W 3 := by
  have h2 : laidMet Tryz.prog (laid.drop 5) W := h.tail.tail.tail.tail.tail
  rw [show laid.drop 5 = ("strconv.ErrSyntax", .iface "*errors.errorString" (.ptr (.agg [.lit (.string [105, 110, 118, 97, 108, 105, 100, 32, 115, 121, 110, 116, 97, 120])]))) :: laid.drop 6 by kernel_rfl] at h2
  obtain ⟨a0, s0, hv0, -, -, -⟩ := laid_sentinel (g := 3) (ti := 74) (tp := 140) (te := 142) (ts := 9) h2 (by kernel_rfl) (by kernel_rfl) Tryz.underlying74 rowE Tryz.underlying140 Tryz.underlying142 rfl rfl Tryz.underlying9 (by kernel_rfl) (by kernel_rfl)
  exact ⟨_, by have h0 := World.var?_cell (g := 3) (by kernel_rfl) hv0 0; simpa using h0, .inr ⟨_, _, rfl⟩⟩
theorem errW1 {W : World} (h : laidMet Tryz.prog laid W) : ErrW W 4 := by
  have h2 : laidMet Tryz.prog (laid.drop 4) W := h.tail.tail.tail.tail
  rw [show laid.drop 4 = ("strconv.ErrRange", .iface "*errors.errorString" (.ptr (.agg [.lit (.string [118, 97, 108, 117, 101, 32, 111, 117, 116, 32, 111, 102, 32, 114, 97, 110, 103, 101])]))) :: laid.drop 5 by kernel_rfl] at h2
  obtain ⟨a0, s0, hv0, -, -, -⟩ := laid_sentinel (g := 4) (ti := 74) (tp := 140) (te := 142) (ts := 9) h2 (by kernel_rfl) (by kernel_rfl) Tryz.underlying74 rowE Tryz.underlying140 Tryz.underlying142 rfl rfl Tryz.underlying9 (by kernel_rfl) (by kernel_rfl)
  exact ⟨_, by have h0 := World.var?_cell (g := 4) (by kernel_rfl) hv0 0; simpa using h0, .inr ⟨_, _, rfl⟩⟩
theorem of_laid {W : World} (h0 : laidMetH Tryz.prog laid W ∧ W.ShapedOpen Tryz.prog) : TabW W := by
  obtain ⟨h, hs⟩ := h0
  rw [MakeChecks.laidMetH_plain _ _ _ (by kernel_rfl)] at h
  have h2 : laidMet Tryz.prog (laid.drop 2) W := h.tail.tail
  rw [show laid.drop 2 = ("internal/strconv.uint64pow10", Lib.tabData .u64 Lib.pow10Tab) :: laid.drop 3 by kernel_rfl] at h2
  have ht := Lib.tabIs_of_head (g := 5) (by kernel_rfl) (by kernel_rfl) Tryz.underlying144 Tryz.underlying121 (by kernel_rfl) (by kernel_rfl) h2
  exact ⟨ht, errW0 h, errW1 h, Go.Proofs.cell_of_shapedOpen_int (g := 0) (t := 3) (k := .i64) (zero := #[.int .i64 0]) hs (by decide) (by kernel_rfl) (by rfl) (by kernel_rfl) (by kernel_rfl) Tryz.underlying3⟩

set_option maxRecDepth 100000 in
theorem lifted (os : Os) (started : os.Started) (H : Type) (enc : TypeId × Value → H) :
    ReturnsInHanded {} Tryz.checked os 3 .any (fun w args => (Rows.surfaceBackSpec.pre enc Tryz.prog Tryz.f3 [] false w args ∧ laidMetH Tryz.prog laid w) ∧ sizedMet enc Tryz.prog Tryz.f3 (OpenSpec.ofChange Rows.surfaceBackSpec) false w args) (Rows.surfaceBackSpec.post enc Tryz.prog Tryz.f3 false true false false) := by
  refine handed_shaped (C := Tryz.checked) (X := fun w _ => laidMetH Tryz.prog laid w) (fun _ _ _ hh h => h.of_heap hh) own started (by kernel_rfl) Tryz.func3
    (ChangeSpec.witness_shaped (enc := enc) (C := Tryz.checked) (os := os) (X := fun w _ => laidMetH Tryz.prog laid w) false (World.laidAll Tryz.prog os laid) #[.agg #[.slice none 0 0, .slice none 0 0, .slice none 0 0], .int .u8 0, .int .u8 0, .int .i64 0, .int .i64 0, .int .i64 0, .string ByteArray.empty] 8 (World.laidAll_os _ _ _) (World.shaped_of_ZipB (by kernel_rfl) (by kernel_rfl)) (by kernel_rfl) (by kernel_rfl) (by kernel_rfl) (by rw [MakeChecks.laidMetH_plain _ _ _ (by kernel_rfl)]; exact laidMet_laidAll _ (by kernel_rfl) (by kernel_rfl))) ?_
  intro W base args ds gs before hval0 hW hL0 hsh
  have hL := And.intro hL0 hsh
  have hval : ∀ (j : Nat) t v, Tryz.f3.params[j]? = some t → args[j]? = some v → Value.okWide Tryz.prog W .any base t v := hval0
  have hW' := hW
  obtain ⟨p, q, hA0, hV, rfl, hfz, hnd⟩ := hW
  have hA : DataW.TrodAll enc Tryz.prog W 0 (fun _ => true) true Tryz.f3.params.toList args.toList ds p := hA0
  rw [Tryz.params3] at hA hval
  obtain ⟨v0, vs0, d0, ds0, p0, q0, hargs, rfl, rfl, h0, r0⟩ := trodAll_cons hA
  obtain ⟨v1, vs1, d1, ds1, p1, q1, rfl, rfl, rfl, h1, r1⟩ := trodAll_cons r0
  obtain ⟨v2, vs2, d2, ds2, p2, q2, rfl, rfl, rfl, h2, r2⟩ := trodAll_cons r1
  obtain ⟨v3, vs3, d3, ds3, p3, q3, rfl, rfl, rfl, h3, r3⟩ := trodAll_cons r2
  obtain ⟨v4, vs4, d4, ds4, p4, q4, rfl, rfl, rfl, h4, r4⟩ := trodAll_cons r3
  obtain ⟨v5, vs5, d5, ds5, p5, q5, rfl, rfl, rfl, h5, r5⟩ := trodAll_cons r4
  obtain ⟨v6, vs6, d6, ds6, p6, q6, rfl, rfl, rfl, h6, r6⟩ := trodAll_cons r5
  obtain ⟨rfl, rfl, rfl⟩ := trodAll_nil r6
  obtain rfl : args = #[v0, v1, v2, v3, v4, v5, v6] := by cases args; simp_all
  obtain ⟨rfl, rfl⟩ := trodVars_none hV
  have k0 := h0
  have lt0 : ∀ x ∈ p0, x.block < W.heap.size := by obtain ⟨m, hm⟩ := k0; exact DataW.trod_lt m _ _ _ hm
  obtain ⟨cs0, rfl, hs0⟩ := okWide_struct Tryz.underlying25 (hval 0 25 v0 rfl rfl)
  obtain ⟨m_c0, m_c1, m_c2, rfl⟩ := arr3 (hs0.trans (show Tryz.prog.cellsOf 25 = 3 by kernel_rfl))
  have t0 : Tr enc Tryz.prog W 25 [m_c0, m_c1, m_c2] := Tr.of h0
  have hf_m_0 : Tr enc Tryz.prog W 22 [m_c0] := (Tr.struct Tryz.underlying25 t0).2 0 _ rfl
  have hf_m_1 : Tr enc Tryz.prog W 22 [m_c1] := (Tr.struct Tryz.underlying25 t0).2 1 _ rfl
  have hf_m_2 : Tr enc Tryz.prog W 23 [m_c2] := (Tr.struct Tryz.underlying25 t0).2 2 _ rfl
  obtain ⟨m_X_a, m_X_len, m_X_cap, hx_, m_X_hlen, m_X_l, m_X_q, m_X_h⟩ := Tr.ones (Value.int .i64) (fun n => (-9223372036854775808) ≤ n ∧ n ≤ 9223372036854775807) Tryz.underlying22 hf_m_0 (fun x hx => by obtain ⟨n, h1, h2⟩ := Tr.int Tryz.underlying3 hx; exact ⟨n, h1, by simpa [IntKind.min, IntKind.max, IntKind.signed, IntKind.bits] using h2⟩)
  obtain rfl : m_c0 = _ := by simpa using hx_
  clear hx_
  have m_X_cp := Tr.cap Tryz.underlying22 hf_m_0
  clear hf_m_0
  obtain ⟨m_Y_a, m_Y_len, m_Y_cap, hx_, m_Y_hlen, m_Y_l, m_Y_q, m_Y_h⟩ := Tr.ones (Value.int .i64) (fun n => (-9223372036854775808) ≤ n ∧ n ≤ 9223372036854775807) Tryz.underlying22 hf_m_1 (fun x hx => by obtain ⟨n, h1, h2⟩ := Tr.int Tryz.underlying3 hx; exact ⟨n, h1, by simpa [IntKind.min, IntKind.max, IntKind.signed, IntKind.bits] using h2⟩)
  obtain rfl : m_c1 = _ := by simpa using hx_
  clear hx_
  have m_Y_cp := Tr.cap Tryz.underlying22 hf_m_1
  clear hf_m_1
  obtain ⟨m_Z_a, m_Z_len, m_Z_cap, hx_, m_Z_hlen, m_Z_l, m_Z_ln, m_Z_q, m_Z_h⟩ := Tr.list (rwE) (rwQ W) Tryz.underlying23 hf_m_2 el22
  obtain rfl : m_c2 = _ := by simpa using hx_
  clear hx_
  have m_Z_cp := Tr.cap Tryz.underlying23 hf_m_2
  clear hf_m_2
  have k1 := h1
  have lt1 : ∀ x ∈ p1, x.block < W.heap.size := by obtain ⟨m, hm⟩ := k1; exact DataW.trod_lt m _ _ _ hm
  obtain ⟨i, rfl, rfl, rfl, i_w⟩ := open_int Tryz.underlying5 (hval 1 5 v1 rfl rfl) h1
  have i_b := bounds_u8 i_w
  have k2 := h2
  have lt2 : ∀ x ∈ p2, x.block < W.heap.size := by obtain ⟨m, hm⟩ := k2; exact DataW.trod_lt m _ _ _ hm
  obtain ⟨j, rfl, rfl, rfl, j_w⟩ := open_int Tryz.underlying5 (hval 2 5 v2 rfl rfl) h2
  have j_b := bounds_u8 j_w
  have k3 := h3
  have lt3 : ∀ x ∈ p3, x.block < W.heap.size := by obtain ⟨m, hm⟩ := k3; exact DataW.trod_lt m _ _ _ hm
  obtain ⟨z, rfl, rfl, rfl, z_w⟩ := open_int Tryz.underlying3 (hval 3 3 v3 rfl rfl) h3
  have z_b := bounds_i64 z_w
  have k4 := h4
  have lt4 : ∀ x ∈ p4, x.block < W.heap.size := by obtain ⟨m, hm⟩ := k4; exact DataW.trod_lt m _ _ _ hm
  obtain ⟨x, rfl, rfl, rfl, x_w⟩ := open_int Tryz.underlying3 (hval 4 3 v4 rfl rfl) h4
  have x_b := bounds_i64 x_w
  have k5 := h5
  have lt5 : ∀ x ∈ p5, x.block < W.heap.size := by obtain ⟨m, hm⟩ := k5; exact DataW.trod_lt m _ _ _ hm
  obtain ⟨y, rfl, rfl, rfl, y_w⟩ := open_int Tryz.underlying3 (hval 5 3 v5 rfl rfl) h5
  have y_b := bounds_i64 y_w
  have k6 := h6
  have lt6 : ∀ x ∈ p6, x.block < W.heap.size := by obtain ⟨m, hm⟩ := k6; exact DataW.trod_lt m _ _ _ hm
  obtain ⟨s, rfl, rfl, rfl, s_w⟩ := open_string Tryz.underlying9 (hval 6 9 v6 rfl rfl) h6
  have s_b : s.size ≤ 9223372036854775807 := by simpa [maxLen] using s_w
  clear hA0 hval0
  have hw := lawback_any (⟨m_X_a, m_X_len, m_X_cap, m_X_l, m_Y_a, m_Y_len, m_Y_cap, m_Y_l, m_Z_a, m_Z_len, m_Z_cap, m_Z_l⟩ : Mp) i j z x y s W ⟨m_X_cp, m_X_h, m_X_q, m_Y_cp, m_Y_h, m_Y_q, m_Z_cp, ⟨m_Z_ln, fun _ => rfl, by decide, m_Z_h⟩, m_Z_q, trivial⟩ i_b j_b s_b (of_laid hL)
  refine Calls.mono hw fun e W' he => ?_
  obtain ⟨_, rfl, rfl, hS⟩ := he
  have bel := hS.below
  exact ⟨_, rfl, _, _, _, [], _, [], hW', trodAll_mk1 (shut_bool Tryz.underlying4 _), (trodAll_cons_mk (Below.trod laidOut (by kernel_rfl) (of_decide_eq_true (by kernel_rfl)) k0 bel lt0) (trodAll_cons_mk (Below.trod laidOut (by kernel_rfl) (of_decide_eq_true (by kernel_rfl)) k1 bel lt1) (trodAll_cons_mk (Below.trod laidOut (by kernel_rfl) (of_decide_eq_true (by kernel_rfl)) k2 bel lt2) (trodAll_cons_mk (Below.trod laidOut (by kernel_rfl) (of_decide_eq_true (by kernel_rfl)) k3 bel lt3) (trodAll_cons_mk (Below.trod laidOut (by kernel_rfl) (of_decide_eq_true (by kernel_rfl)) k4 bel lt4) (trodAll_cons_mk (Below.trod laidOut (by kernel_rfl) (of_decide_eq_true (by kernel_rfl)) k5 bel lt5) (trodAll_cons_mk (Below.trod laidOut (by kernel_rfl) (of_decide_eq_true (by kernel_rfl)) k6 bel lt6) trodAll_mk0))))))), rfl, bel.frame _, fun h => by cases h⟩

theorem over : Rows.surfaceBackRow.holds Tryz.pinned (OpenSpec.ofChange Rows.surfaceBackSpec) :=
  OpenClaim.holds_of_wide 3 Tryz.f3 rfl rfl rfl rfl rfl rfl rfl ⟨rfl, rfl, rfl, rfl, rfl⟩ rfl rfl rfl rfl rfl (by kernel_rfl) Tryz.func3 (by kernel_rfl)
    (of_decide_eq_true (by kernel_rfl)) (by unfold Func.isWrapper; first | (rw [if_pos (by decide +kernel)]; kernel_rfl) | (rw [if_neg (by decide +kernel)]; exact ⟨rfl, rfl⟩))
    (fun os started H enc _ => lifted os started H enc)

theorem proved : Rows.SurfaceBackCardSaid :=
  Claim7.holds_tied_plain_at .later [] [.data, .data, .data, .data, .sentinel, .sentinel, .pinned] true (true, "cc82c8075264e9631be2174d577d67c33c2e30de6a7d49259c23a22e75b6fcb8") true over (fun _ h => by cases h) (by kernel_rfl) (fun _ h => by cases h) surfaceBack_row_tie rfl ⟨rfl, rfl⟩ (by kernel_rfl) rfl
    (fun f fn hf hfn => by
      obtain rfl : f = 3 := Option.some.inj ((show Tryz.prog.funcNamed Rows.surfaceBackRow.func = some 3 by kernel_rfl).symm.trans hf) |>.symm
      obtain rfl : fn = Tryz.f3 := (Option.some.inj (Tryz.func3.symm.trans hfn)).symm
      exact ⟨by kernel_rfl, fun j t ht => by
        rw [Tryz.params3] at ht
        have hm : t ∈ [25, 5, 5, 3, 3, 3, 9] := by have := Array.mem_of_getElem? ht; simpa [or_comm, or_left_comm] using this
        have hall : ([25, 5, 5, 3, 3, 3, 9].all fun u => !Tryz.prog.wantsStandIn u) = true := by kernel_rfl
        exact (show Tryz.prog.wantsStandIn t = false by simpa using List.all_eq_true.1 hall t hm)⟩)
    (by kernel_rfl)
#print axioms proved
end Go.Proofs.YtadgnficogeheaaGreatDoor.surfaceBack

