/- The given statement DriveBlanksSaid, proved: the law returns true whatever its arguments, and leaves them as they were. Conditions: none beyond the statement's own. -/
import Derived.Test.YthhdaackhfffiaaDoorRows
import Derived.Test.YthhdaackhfffiaaDoorZlEng6
import Derived.Test.YthhdaackhfffiaaDoorZlD24
import Derived.WalkKit
import Derived.ProofKit
import Derived.Test.YthhdaackhfffiaaDoorTie
import Derived.Test.YthhdaackhfffiaaDoorCards
import Derived.LaidMore
import Derived.MakeChecks
import Derived.Stop.LaidErr
import Derived.Stop.Joined
import Derived.SevenTiedAt
import Derived.Lay
import Derived.Shelf.Vars
import Derived.OpenShut
import Derived.ShutString
import Derived.ChangeOld
import Derived.Below
namespace Go.Proofs.YthhdaackhfffiaaDoor.driveBlanks
open Go.ChangeShapes Go.WideShapes Go.ChangeAt Go.RowKit Go.Eng
open Go.ChangeMaps (open_string shut_string)
set_option linter.unusedVariables false
set_option linter.unusedSimpArgs false

theorem own : ownKnob Tryd.prog.godebug = none := by kernel_rfl
theorem laidOut : laidOutB Tryd.prog = true := by kernel_rfl
theorem lst5 {x : List Value} (h : x.length = 5) : ∃ c0 c1 c2 c3 c4, x = [c0, c1, c2, c3, c4] := by
  match x, h with
  | [c0, c1, c2, c3, c4], _ => exact ⟨c0, c1, c2, c3, c4, rfl⟩
set_option maxRecDepth 100000 in
theorem el27 {H : Type} {enc : TypeId × Value → H} {W : World} (x : List Value) (hx : Tr enc Tryd.prog W 27 x) : ∃ y : Dr, x = drE y ∧ drQ W y := by
  have hl : x.length = 5 := (Tr.struct Tryd.underlying27 hx).1.trans (show Tryd.prog.cellsOf 27 = 5 by kernel_rfl)
  obtain ⟨c0, c1, c2, c3, c4, rfl⟩ := lst5 hl
  have hf_y_0 : Tr enc Tryd.prog W 3 [c0] := (Tr.struct Tryd.underlying27 hx).2 0 _ rfl
  have hf_y_1 : Tr enc Tryd.prog W 3 [c1] := (Tr.struct Tryd.underlying27 hx).2 1 _ rfl
  have hf_y_2 : Tr enc Tryd.prog W 3 [c2] := (Tr.struct Tryd.underlying27 hx).2 2 _ rfl
  have hf_y_3 : Tr enc Tryd.prog W 3 [c3] := (Tr.struct Tryd.underlying27 hx).2 3 _ rfl
  have hf_y_4 : Tr enc Tryd.prog W 3 [c4] := (Tr.struct Tryd.underlying27 hx).2 4 _ rfl
  obtain ⟨y_At, hx_, y_At_b0⟩ := Tr.int Tryd.underlying3 hf_y_0
  obtain rfl : c0 = _ := by simpa using hx_
  clear hx_
  have y_At_b : (-9223372036854775808) ≤ y_At ∧ y_At ≤ 9223372036854775807 := by simpa [IntKind.min, IntKind.max, IntKind.signed, IntKind.bits] using y_At_b0
  clear y_At_b0
  clear hf_y_0
  obtain ⟨y_Pedal, hx_, y_Pedal_b0⟩ := Tr.int Tryd.underlying3 hf_y_1
  obtain rfl : c1 = _ := by simpa using hx_
  clear hx_
  have y_Pedal_b : (-9223372036854775808) ≤ y_Pedal ∧ y_Pedal ≤ 9223372036854775807 := by simpa [IntKind.min, IntKind.max, IntKind.signed, IntKind.bits] using y_Pedal_b0
  clear y_Pedal_b0
  clear hf_y_1
  obtain ⟨y_Brake, hx_, y_Brake_b0⟩ := Tr.int Tryd.underlying3 hf_y_2
  obtain rfl : c2 = _ := by simpa using hx_
  clear hx_
  have y_Brake_b : (-9223372036854775808) ≤ y_Brake ∧ y_Brake ≤ 9223372036854775807 := by simpa [IntKind.min, IntKind.max, IntKind.signed, IntKind.bits] using y_Brake_b0
  clear y_Brake_b0
  clear hf_y_2
  obtain ⟨y_Gear, hx_, y_Gear_b0⟩ := Tr.int Tryd.underlying3 hf_y_3
  obtain rfl : c3 = _ := by simpa using hx_
  clear hx_
  have y_Gear_b : (-9223372036854775808) ≤ y_Gear ∧ y_Gear ≤ 9223372036854775807 := by simpa [IntKind.min, IntKind.max, IntKind.signed, IntKind.bits] using y_Gear_b0
  clear y_Gear_b0
  clear hf_y_3
  obtain ⟨y_Load, hx_, y_Load_b0⟩ := Tr.int Tryd.underlying3 hf_y_4
  obtain rfl : c4 = _ := by simpa using hx_
  clear hx_
  have y_Load_b : (-9223372036854775808) ≤ y_Load ∧ y_Load ≤ 9223372036854775807 := by simpa [IntKind.min, IntKind.max, IntKind.signed, IntKind.bits] using y_Load_b0
  clear y_Load_b0
  clear hf_y_4
  exact ⟨⟨y_At, y_Pedal, y_Brake, y_Gear, y_Load⟩, rfl, ⟨y_At_b, y_Pedal_b, y_Brake_b, y_Gear_b, y_Load_b, trivial⟩⟩
def laid : List (String × DataW Unit) := Rows.driveBlanksRow.laid
theorem starE : "*" ++ "errors.errorString" = "*errors.errorString" := by decide
theorem rowE (u : TypeId) (h : Tryd.prog.typeName? 3 u = some "*errors.errorString") : u = 153 :=
  typeName_ptr_named (nm := "errors.errorString") (by rw [starE]; kernel_rfl) (by kernel_rfl) (by decide) u (by rw [starE]; exact h)
theorem errW0 {W : World} (h : laidMet Tryd.prog laid W) : ErrW W 6 := by
  have h2 : laidMet Tryd.prog (laid.drop 5) W := h.tail.tail.tail.tail.tail
  rw [show laid.drop 5 = ("strconv.ErrSyntax", .iface "*errors.errorString" (.ptr (.agg [.lit (.string [105, 110, 118, 97, 108, 105, 100, 32, 115, 121, 110, 116, 97, 120])]))) :: laid.drop 6 by kernel_rfl] at h2
  obtain ⟨a0, s0, hv0, -, -, -⟩ := laid_sentinel (g := 6) (ti := 64) (tp := 153) (te := 155) (ts := 9) h2 (by kernel_rfl) (by kernel_rfl) Tryd.underlying64 rowE Tryd.underlying153 Tryd.underlying155 rfl rfl Tryd.underlying9 (by kernel_rfl) (by kernel_rfl)
  exact ⟨_, by have h0 := World.var?_cell (g := 6) (by kernel_rfl) hv0 0; simpa using h0, .inr ⟨_, _, rfl⟩⟩
theorem errW1 {W : World} (h : laidMet Tryd.prog laid W) : ErrW W 7 := by
  have h2 : laidMet Tryd.prog (laid.drop 4) W := h.tail.tail.tail.tail
  rw [show laid.drop 4 = ("strconv.ErrRange", .iface "*errors.errorString" (.ptr (.agg [.lit (.string [118, 97, 108, 117, 101, 32, 111, 117, 116, 32, 111, 102, 32, 114, 97, 110, 103, 101])]))) :: laid.drop 5 by kernel_rfl] at h2
  obtain ⟨a0, s0, hv0, -, -, -⟩ := laid_sentinel (g := 7) (ti := 64) (tp := 153) (te := 155) (ts := 9) h2 (by kernel_rfl) (by kernel_rfl) Tryd.underlying64 rowE Tryd.underlying153 Tryd.underlying155 rfl rfl Tryd.underlying9 (by kernel_rfl) (by kernel_rfl)
  exact ⟨_, by have h0 := World.var?_cell (g := 7) (by kernel_rfl) hv0 0; simpa using h0, .inr ⟨_, _, rfl⟩⟩
theorem of_laid {W : World} (h0 : laidMetH Tryd.prog laid W ∧ W.ShapedOpen Tryd.prog) : TabW W := by
  obtain ⟨h, hs⟩ := h0
  rw [MakeChecks.laidMetH_plain _ _ _ (by kernel_rfl)] at h
  have h2 : laidMet Tryd.prog (laid.drop 2) W := h.tail.tail
  rw [show laid.drop 2 = ("internal/strconv.uint64pow10", Lib.tabData .u64 Lib.pow10Tab) :: laid.drop 3 by kernel_rfl] at h2
  have ht := Lib.tabIs_of_head (g := 3) (by kernel_rfl) (by kernel_rfl) Tryd.underlying126 Tryd.underlying106 (by kernel_rfl) (by kernel_rfl) h2
  exact ⟨ht, errW0 h, errW1 h, Go.Proofs.cell_of_shapedOpen_int (g := 2) (t := 3) (k := .i64) (zero := #[.int .i64 0]) hs (by decide) (by kernel_rfl) (by rfl) (by kernel_rfl) (by kernel_rfl) Tryd.underlying3⟩

set_option maxRecDepth 100000 in
theorem lifted (os : Os) (started : os.Started) (H : Type) (enc : TypeId × Value → H) :
    ReturnsInHanded {} Tryd.checked os 7 .any (fun w args => (Rows.driveBlanksSpec.pre enc Tryd.prog Tryd.f7 [] false w args ∧ laidMetH Tryd.prog laid w) ∧ sizedMet enc Tryd.prog Tryd.f7 (OpenSpec.ofChange Rows.driveBlanksSpec) false w args) (Rows.driveBlanksSpec.post enc Tryd.prog Tryd.f7 false true false false) := by
  refine handed_shaped (C := Tryd.checked) (X := fun w _ => laidMetH Tryd.prog laid w) (fun _ _ _ hh h => h.of_heap hh) own started (by kernel_rfl) Tryd.func7
    (ChangeSpec.witness_shaped (enc := enc) (C := Tryd.checked) (os := os) (X := fun w _ => laidMetH Tryd.prog laid w) false (World.laidAll Tryd.prog os laid) #[.slice none 0 0, .string ByteArray.empty, .slice none 0 0] 8 (World.laidAll_os _ _ _) (World.shaped_of_ZipB (by kernel_rfl) (by kernel_rfl)) (by kernel_rfl) (by kernel_rfl) (by kernel_rfl) (by rw [MakeChecks.laidMetH_plain _ _ _ (by kernel_rfl)]; exact laidMet_laidAll _ (by kernel_rfl) (by kernel_rfl))) ?_
  intro W base args ds gs before hval0 hW hL0 hsh
  have hL := And.intro hL0 hsh
  have hval : ∀ (j : Nat) t v, Tryd.f7.params[j]? = some t → args[j]? = some v → Value.okWide Tryd.prog W .any base t v := hval0
  have hW' := hW
  obtain ⟨p, q, hA0, hV, rfl, hfz, hnd⟩ := hW
  have hA : DataW.TrodAll enc Tryd.prog W 0 (fun _ => true) true Tryd.f7.params.toList args.toList ds p := hA0
  rw [Tryd.params7] at hA hval
  obtain ⟨v0, vs0, d0, ds0, p0, q0, hargs, rfl, rfl, h0, r0⟩ := trodAll_cons hA
  obtain ⟨v1, vs1, d1, ds1, p1, q1, rfl, rfl, rfl, h1, r1⟩ := trodAll_cons r0
  obtain ⟨v2, vs2, d2, ds2, p2, q2, rfl, rfl, rfl, h2, r2⟩ := trodAll_cons r1
  obtain ⟨rfl, rfl, rfl⟩ := trodAll_nil r2
  obtain rfl : args = #[v0, v1, v2] := by cases args; simp_all
  obtain ⟨rfl, rfl⟩ := trodVars_none hV
  have k0 := h0
  have lt0 : ∀ x ∈ p0, x.block < W.heap.size := by obtain ⟨m, hm⟩ := k0; exact DataW.trod_lt m _ _ _ hm
  have t0 := Tr.of h0
  rw [val_slice Tryd.underlying22 (hval 0 22 v0 rfl rfl)] at t0
  obtain ⟨l_a, l_len, l_cap, hx_, l_hlen, l_l, l_ln, l_q, l_h⟩ := Tr.list (drE) (drQ W) Tryd.underlying22 t0 el27
  obtain rfl : v0 = _ := by simpa using hx_
  clear hx_
  have l_cp := Tr.cap Tryd.underlying22 t0
  have k1 := h1
  have lt1 : ∀ x ∈ p1, x.block < W.heap.size := by obtain ⟨m, hm⟩ := k1; exact DataW.trod_lt m _ _ _ hm
  obtain ⟨comment, rfl, rfl, rfl, comment_w⟩ := open_string Tryd.underlying9 (hval 1 9 v1 rfl rfl) h1
  have comment_b : comment.size ≤ 9223372036854775807 := by simpa [maxLen] using comment_w
  have k2 := h2
  have lt2 : ∀ x ∈ p2, x.block < W.heap.size := by obtain ⟨m, hm⟩ := k2; exact DataW.trod_lt m _ _ _ hm
  have t2 := Tr.of h2
  rw [val_slice Tryd.underlying45 (hval 2 45 v2 rfl rfl)] at t2
  obtain ⟨fills_a, fills_len, fills_cap, hx_, fills_hlen, fills_l, fills_q, fills_h⟩ := Tr.ones (Value.int .u8) (fun n => 0 ≤ n ∧ n ≤ 255) Tryd.underlying45 t2 (fun x hx => by obtain ⟨n, h1, h2⟩ := Tr.int Tryd.underlying5 hx; exact ⟨n, h1, by simpa [IntKind.min, IntKind.max, IntKind.signed, IntKind.bits] using h2⟩)
  obtain rfl : v2 = _ := by simpa using hx_
  clear hx_
  have fills_cp := Tr.cap Tryd.underlying45 t2
  clear hA0 hval0
  have hw := lawblanks_any l_a l_len l_cap l_l comment fills_a fills_len fills_cap fills_l W ⟨l_ln, fun _ => rfl, by decide, l_h⟩ comment_b fills_h fills_q fills_hlen (of_laid hL)
  refine Calls.mono hw fun e W' he => ?_
  obtain ⟨_, rfl, rfl, hS⟩ := he
  have bel := hS.below
  exact ⟨_, rfl, _, _, _, [], _, [], hW', trodAll_mk1 (shut_bool Tryd.underlying4 _), (trodAll_cons_mk (Below.trod laidOut (by kernel_rfl) (of_decide_eq_true (by kernel_rfl)) k0 bel lt0) (trodAll_cons_mk (Below.trod laidOut (by kernel_rfl) (of_decide_eq_true (by kernel_rfl)) k1 bel lt1) (trodAll_cons_mk (Below.trod laidOut (by kernel_rfl) (of_decide_eq_true (by kernel_rfl)) k2 bel lt2) trodAll_mk0))), rfl, bel.frame _, fun h => by cases h⟩

theorem over : Rows.driveBlanksRow.holds Tryd.pinned (OpenSpec.ofChange Rows.driveBlanksSpec) :=
  OpenClaim.holds_of_wide 7 Tryd.f7 rfl rfl rfl rfl rfl rfl rfl ⟨rfl, rfl, rfl, rfl, rfl⟩ rfl rfl rfl rfl rfl (by kernel_rfl) Tryd.func7 (by kernel_rfl)
    (of_decide_eq_true (by kernel_rfl)) (by unfold Func.isWrapper; first | (rw [if_pos (by decide +kernel)]; kernel_rfl) | (rw [if_neg (by decide +kernel)]; exact ⟨rfl, rfl⟩))
    (fun os started H enc _ => lifted os started H enc)

theorem proved : Rows.DriveBlanksCardSaid :=
  Claim7.holds_tied_plain_at .later [] [.data, .data, .data, .data, .sentinel, .sentinel, .pinned] true (true, "605f3e6eaf7ef3707a3d17bf984ca5b1f396e688240d07960169220b14e2553b") true over (fun _ h => by cases h) (by kernel_rfl) (fun _ h => by cases h) driveBlanks_row_tie rfl ⟨rfl, rfl⟩ (by kernel_rfl) rfl
    (fun f fn hf hfn => by
      obtain rfl : f = 7 := Option.some.inj ((show Tryd.prog.funcNamed Rows.driveBlanksRow.func = some 7 by kernel_rfl).symm.trans hf) |>.symm
      obtain rfl : fn = Tryd.f7 := (Option.some.inj (Tryd.func7.symm.trans hfn)).symm
      exact ⟨by kernel_rfl, fun j t ht => by
        rw [Tryd.params7] at ht
        have hm : t ∈ [22, 9, 45] := by have := Array.mem_of_getElem? ht; simpa [or_comm, or_left_comm] using this
        have hall : ([22, 9, 45].all fun u => !Tryd.prog.wantsStandIn u) = true := by kernel_rfl
        exact (show Tryd.prog.wantsStandIn t = false by simpa using List.all_eq_true.1 hall t hm)⟩)
    (by kernel_rfl)
#print axioms proved
end Go.Proofs.YthhdaackhfffiaaDoor.driveBlanks

